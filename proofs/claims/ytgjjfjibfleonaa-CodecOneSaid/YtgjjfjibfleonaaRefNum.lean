/-
  The document's reader of numbers.
-/
import Derived.Test.YtgjjfjibfleonaaReadI
namespace Go.Proofs.Ytgjjfjibfleonaa
open Go.RowKit
set_option maxRecDepth 100000
set_option linter.unusedVariables false

/-- block r is a reader of the document's: at an offset, or with an error -/
def RS (B : Nat) (w : World) (r : Nat) (L : List UInt8) : Except Nat Nat → Prop
  | .ok p => B ≤ r ∧ ∃ (A : Option Addr) (c : Nat), w.heap[r]? = some (.cells #[.slice A L.length c, .int .i64 (p : Int), .int .i64 0] 64 (0, 0)) ∧ Bytes (· < B) w (.slice A L.length c) L ∧ p ≤ L.length ∧ L.length ≤ 1000000000
  | .error k => k ≠ 0 ∧ ∃ v p, w.heap[r]? = some (.cells #[v, p, .int .i64 (k : Int)] 64 (0, 0))
theorem RS.lt {B : Nat} {w : World} {r : Nat} {L : List UInt8} {s : Except Nat Nat} (h : RS B w r L s) : r < w.heap.size := by
  cases s with
  | ok p => obtain ⟨_, A, c, h1, _⟩ := h; exact (Array.getElem?_eq_some_iff.1 h1).1
  | error k => obtain ⟨_, v, p, h1⟩ := h; exact (Array.getElem?_eq_some_iff.1 h1).1
theorem RS.kept {B : Nat} {w w' : World} {r : Nat} {L : List UInt8} {s : Except Nat Nat} (h : RS B w r L s) (hk : ∀ b, b < w.heap.size → (b < B ∨ b = r) → w'.heap[b]? = w.heap[b]?) : RS B w' r L s := by
  have hlt := h.lt
  cases s with
  | ok p =>
    obtain ⟨hB, A, c, h1, h2, h3, h4⟩ := h
    exact ⟨hB, A, c, (hk r hlt (.inr rfl)).trans h1, h2.keep (fun b hb hs => hk b hb (.inl hs)), h3, h4⟩
  | error k =>
    obtain ⟨h0, v, p, h1⟩ := h
    exact ⟨h0, v, p, (hk r hlt (.inr rfl)).trans h1⟩
theorem RS.ext {B : Nat} {w w' : World} {r : Nat} {L : List UInt8} {s : Except Nat Nat} (h : RS B w r L s) (hb : Below w.heap.size w w') : RS B w' r L s := h.kept fun b hb' _ => hb.block b hb'
theorem RS.grown {B : Nat} {w w' : World} {r : Nat} {L : List UInt8} {s : Except Nat Nat} {row : Option Nat} (h : RS B w r L s) (hg : w.grownBy w' row) (hr : ∀ m, row = some m → B ≤ m ∧ m ≠ r) : RS B w' r L s :=
  h.kept fun b hb' hs => hg.block b hb' (fun e => by
    have := hr b e.symm
    rcases hs with hs | hs
    · omega
    · exact this.2 hs)
theorem RS.drew {B : Nat} {w : World} {r : Nat} {L : List UInt8} {s : Except Nat Nat} (h : RS B w r L s) : RS B w.drew r L s := by cases s <;> exact h
/-- a number, and where the reader stands then -/
def stI (L : List UInt8) : Except Nat Nat → Int × Except Nat Nat
  | .error k => (0, .error k)
  | .ok p => match rdInt L p with | .ok (v, q) => (v, .ok q) | .error k => (0, .error k)
theorem rdI_err {L : List UInt8} : ∀ {n i u p k : Nat}, rdI L n i u p = .error k → k = 8 ∨ k = 9
  | 0, i, u, p, k, h => by rw [rdI] at h; cases h; exact .inr rfl
  | n + 1, i, u, p, k, h => by
    rw [rdI] at h
    split at h
    · cases h; exact .inl rfl
    · split at h
      · cases h; exact .inr rfl
      · split at h
        · cases h
        · exact rdI_err h
theorem grown_tr {a b c : World} {row : Option Nat} (h : a.grownBy b row) (k : b.grownBy c row) : a.grownBy c row :=
  ⟨k.os.trans h.os, k.tape.trans h.tape, k.output.trans h.output, Nat.le_trans h.size k.size, fun i hi hne => (k.block i (Nat.lt_of_lt_of_le hi h.size) hne).trans (h.block i hi hne)⟩
theorem u64_not (a : Nat) (ha : a < 18446744073709551616) : bits BinOp.xor IntKind.u64 IntKind.u64.max (a : Int) = ((18446744073709551615 - a : Nat) : Int) := by
  show IntKind.u64.wrap ((BitVec.ofInt 64 IntKind.u64.max ^^^ BitVec.ofInt 64 (a : Int)).toNat : Int) = _
  have h1 : BitVec.ofInt 64 IntKind.u64.max = BitVec.allOnes 64 := by decide
  rw [h1, BitVec.allOnes_xor, BitVec.toNat_not, ofInt_u64 a (by omega)]
  simp [IntKind.wrap, IntKind.bits, IntKind.signed]
  omega
theorem zd_even {t : Nat} (h : t % 2 = 0) : zd t = ((t / 2 : Nat) : Int) := if_pos h
theorem zd_odd {t : Nat} (h : ¬ t % 2 = 0) : zd t = -((t / 2 : Nat) : Int) - 1 := if_neg h

set_option maxHeartbeats 400000 in
theorem rfail_any (r k x : Nat) (v p : Value) (w : World) (h : w.heap[r]? = some (.cells #[v, p, .int .i64 0] 64 (0, 0))) :
    Calls Try.prog 48 #[.pointer (some ⟨r, 0, none⟩), .int .i64 (k : Int)] w fun e w' => e = .returned (.int .i64 0) ∧ w'.heap[r]? = some (.cells #[v, p, .int .i64 (k : Int)] 64 (0, 0)) ∧ w.grownBy w' (some r) := by
  have h2 : w.cell? ⟨r, 2, none⟩ = some (.int .i64 0) := by rw [cell_of_row _ _ _ _ _ _ h]; rfl
  have hf : w.frozen? ⟨r, 2, none⟩ = false := frozen_of_row _ _ _ _ _ h
  have H := Lib.hid h
  clear h
  go_enter Try.func48, Try.ntmps48
  go_wp2
  go_ret
  exact ⟨rfl, heap_setCell_same _ r 2 _ _ _ H.out, grown_set ⟨rfl, rfl, rfl, Nat.le_refl _, fun _ _ _ => rfl⟩⟩

set_option maxHeartbeats 1000000 in
theorem refint_any (B r : Nat) (s : Except Nat Nat) (L : List UInt8) (w : World) (h : RS B w r L s) :
    Calls Try.prog 29 #[.pointer (some ⟨r, 0, none⟩)] w fun e w' => e = .returned (.int .i64 (stI L s).1) ∧ RS B w' r L (stI L s).2 ∧ w.grownBy w' (some r) := by
  cases s with
  | error k =>
    have h' := h
    obtain ⟨h0, v, p, h1⟩ := h
    have h2 : w.cell? ⟨r, 2, none⟩ = some (.int .i64 (k : Int)) := by rw [cell_of_row _ _ _ _ _ _ h1]; rfl
    have d : ((k : Int) != 0) = true := by simp; omega
    clear h1
    go_enter Try.func29, Try.ntmps29
    go_wp2
    go_ret
    exact ⟨rfl, h', ⟨rfl, rfl, rfl, Nat.le_refl _, fun _ _ _ => rfl⟩⟩
  | ok p =>
    have hst : ∀ u q, rdU L p = .ok (u, q) → stI L (.ok p) = (zd u, .ok q) := fun u q hu => by
      have hr : rdInt L p = .ok (zd u, q) := by unfold rdInt; rw [hu]
      show (match rdInt L p with | .ok (v, q) => (v, Except.ok q) | .error k => ((0 : Int), Except.error k)) = _
      rw [hr]
    have hse : ∀ k, rdU L p = .error k → stI L (.ok p) = (0, .error k) := fun k hu => by
      have hr : rdInt L p = .error k := by unfold rdInt; rw [hu]
      show (match rdInt L p with | .ok (v, q) => (v, Except.ok q) | .error k => ((0 : Int), Except.error k)) = _
      rw [hr]
    have HST := Lib.hid hst
    have HSE := Lib.hid hse
    clear hst hse
    have q2 : w.cell? ⟨r, 2, none⟩ = some (.int .i64 0) := by
      obtain ⟨_, A, c, h1, _⟩ := h
      rw [cell_of_row _ _ _ _ _ _ h1]; rfl
    go_enter Try.func29, Try.ntmps29
    go_wp2
    clear q2
    go_loopw [3, 4] (fun t s wr => ∃ (i u q : Nat), s = .int .i64 i ∧ t = .int .u64 u ∧ i ≤ 9 ∧ u < 2 ^ (7 * i) ∧ RS B wr r L (.ok q) ∧ w.grownBy wr (some r) ∧ rdI L (10 - i) i u q = rdU L p) (fun _ s _ => 10 - (intOf s).toNat)
    case atStart => exact ⟨0, 0, p, rfl, rfl, by omega, by simp, h, ⟨rfl, rfl, rfl, Nat.le_refl _, fun _ _ _ => rfl⟩, rfl⟩
    case round =>
      obtain ⟨i, u, q, rfl, rfl, hi, hu, hR, hg, he⟩ := hrel
      obtain ⟨hB, A, c, hrow, hby, hq, hL⟩ := hR
      have h0 : wr.cell? ⟨r, 0, none⟩ = some (.slice A L.length c) := by rw [cell_of_row _ _ _ _ _ _ hrow]; rfl
      have h1 : wr.cell? ⟨r, 1, none⟩ = some (.int .i64 (q : Int)) := by rw [cell_of_row _ _ _ _ _ _ hrow]; rfl
      have HE := Lib.hid he
      have Hrow := Lib.hid hrow
      have di : decide ((i : Int) < 10) = true := by simp; omega
      clear he hrow h
      by_cases hlt : q < L.length
      · have dq : decide ((L.length : Int) ≤ (q : Int)) = false := by simp; omega
        have dq' : decide (L.length ≤ q) = false := by simp; omega
        have hby2 := hby
        obtain ⟨A', c', e, _, _, hcs⟩ := hby
        cases e
        obtain ⟨b, off, x, rfl, hbB, hbs, hx, hcx⟩ := hcs.byte hlt
        have hf : wr.frozen? ⟨r, 1, none⟩ = false := frozen_of_row _ _ _ _ _ Hrow.out
        have hx8 := u8_lt x
        obtain ⟨wS, hwS⟩ : ∃ wS, wS = wr.setCell ⟨r, 1, none⟩ (.int .i64 ((q : Int) + 1)) := ⟨_, rfl⟩
        have hgS : wr.grownBy wS (some r) := by rw [hwS]; exact grown_set ⟨rfl, rfl, rfl, Nat.le_refl _, fun _ _ _ => rfl⟩
        have hrS : wS.heap[r]? = some (.cells #[.slice (some ⟨b, off, none⟩) L.length c, .int .i64 (((q + 1 : Nat)) : Int), .int .i64 0] 64 (0, 0)) := by rw [hwS]; exact heap_setCell_same _ r 1 _ _ _ Hrow.out
        have hR2 : RS B wS r L (.ok (q + 1)) := ⟨hB, some ⟨b, off, none⟩, c, hrS, hby2.keep (fun b' hb' hs => hgS.block b' hb' (by intro e; cases e; omega)), by omega, hL⟩
        have hg2 : w.grownBy wS (some r) := ⟨hgS.os.trans hg.os, hgS.tape.trans hg.tape, hgS.output.trans hg.output, Nat.le_trans hg.size hgS.size, fun i hi hne => (hgS.block i (Nat.lt_of_lt_of_le hi hg.size) hne).trans (hg.block i hi hne)⟩
        have HX := Lib.hid hx
        have HR2 := Lib.hid hR2
        have HG2 := Lib.hid hg2
        have HRS := Lib.hid hrS
        have HWS := Lib.hid hwS
        clear hx hcs hR2 hg2 hgS hrS hwS
        go_wp2_with fail
        refine wp_region_lex (fun _ => True) (by kernel_rfl) (by kernel_rfl) trivial ?_
        repeat (refine lex_q rfl ⟨default, trivial⟩ ?_; go_big_quiet_step (fail); refine wpQuiet_nil ?_)
        refine lex_e rfl ?_
        go_wp2_with fail
        refine lex_go trivial ?_
        repeat (refine lex_q rfl ⟨default, trivial⟩ ?_; go_big_quiet_step (fail); refine wpQuiet_nil ?_)
        refine lex_e rfl ?_
        go_wp2_with fail
        refine lex_go trivial ?_
        repeat (refine lex_q rfl ⟨default, trivial⟩ ?_; go_big_quiet_step (fail); refine wpQuiet_nil ?_)
        refine lex_nil ?_
        go_wp2_with fail
        go_wp2_with fail
        refine wp_region_lex (fun _ => True) (by kernel_rfl) (by kernel_rfl) trivial ?_
        repeat (refine lex_q rfl ⟨default, trivial⟩ ?_; go_big_quiet_step (fail); refine wpQuiet_nil ?_)
        refine lex_e rfl ?_
        go_wp2_with fail
        refine lex_go trivial ?_
        repeat (refine lex_q rfl ⟨default, trivial⟩ ?_; go_big_quiet_step (fail); refine wpQuiet_nil ?_)
        refine lex_e rfl ?_
        go_wp2_with fail
        refine lex_go trivial ?_
        repeat (refine lex_q rfl ⟨default, trivial⟩ ?_; go_big_quiet_step (fail); refine wpQuiet_nil ?_)
        refine lex_e rfl ?_
        go_wp2_with fail
        refine lex_go trivial ?_
        repeat (refine lex_q rfl ⟨default, trivial⟩ ?_; go_big_quiet_step (fail); refine wpQuiet_nil ?_)
        refine lex_nil ?_
        by_cases h9 : i = 9
        · by_cases hx1 : 1 < x.toNat
          · have d9 : ((i : Int) == 9) = true := by simp; omega
            have d1 : decide ((1 : Int) < (x.toNat : Int)) = true := by simp; omega
            have hbad := rdI_bad (n := 9 - i) (u := u) HX.out (show (i = 9 ∧ 1 < x.toNat) ∨ (0 < i ∧ x.toNat = 0) by omega)
            rw [show 9 - i + 1 = 10 - i by omega, HE.out] at hbad
            have hse := HSE.out _ hbad
            have Hse := Lib.hid hse
            clear hbad hse
            go_wp2_with fail
            rw [← HWS.out]
            have hfl := rfail_any r 9 0 _ _ wS.drew.drew HRS.out
            rw [show ((9 : Nat) : Int) = 9 from rfl] at hfl
            refine hfl.mono ?_
            rintro e w5 ⟨rfl, hr5, hg5⟩
            go_wp2
            go_ret
            rw [Hse.out]
            exact ⟨rfl, ⟨by omega, _, _, hr5⟩, grown_tr (grown_drew (grown_drew HG2.out)) hg5⟩
          · by_cases hx0 : x.toNat = 0
            · have d9 : ((i : Int) == 9) = true := by simp; omega
              have d1 : decide ((1 : Int) < (x.toNat : Int)) = false := by simp; omega
              have d0 : decide ((0 : Int) < (i : Int)) = true := by simp; omega
              have dx : ((x.toNat : Int) == 0) = true := by simp; omega
              have dc : decide ((x.toNat : Int) < 128) = true := by simp; omega
              have hbad := rdI_bad (n := 9 - i) (u := u) HX.out (show (i = 9 ∧ 1 < x.toNat) ∨ (0 < i ∧ x.toNat = 0) by omega)
              rw [show 9 - i + 1 = 10 - i by omega, HE.out] at hbad
              have hse := HSE.out _ hbad
              have Hse := Lib.hid hse
              clear hbad hse
              go_wp2_with fail
              rw [← HWS.out]
              have hfl := rfail_any r 9 0 _ _ wS.drew.drew HRS.out
              rw [show ((9 : Nat) : Int) = 9 from rfl] at hfl
              refine hfl.mono ?_
              rintro e w5 ⟨rfl, hr5, hg5⟩
              go_wp2
              go_ret
              rw [Hse.out]
              exact ⟨rfl, ⟨by omega, _, _, hr5⟩, grown_tr (grown_drew (grown_drew HG2.out)) hg5⟩
            · have d9 : ((i : Int) == 9) = true := by simp; omega
              have d1 : decide ((1 : Int) < (x.toNat : Int)) = false := by simp; omega
              have d0 : decide ((0 : Int) < (i : Int)) = true := by simp; omega
              have dx : ((x.toNat : Int) == 0) = false := by simp; omega
              have dc : decide ((x.toNat : Int) < 128) = true := by simp; omega
              have hend := rdI_end (n := 9 - i) (u := u) HX.out (show ¬ ((i = 9 ∧ 1 < x.toNat) ∨ (0 < i ∧ x.toNat = 0)) by omega) (by omega)
              rw [show 9 - i + 1 = 10 - i by omega, HE.out] at hend
              have hst := HST.out _ _ hend
              have Hst := Lib.hid hst
              clear hend hst
              have ho := grp_or hi hu hx8 (by omega) 9223372036854775808 (by rw [h9]; rfl)
              rw [Nat.mod_eq_of_lt (by omega : x.toNat < 128)] at ho
              have htl := grp_lt64 (c := x.toNat) hi hu hx8 (by omega)
              rw [Nat.mod_eq_of_lt (by omega)] at htl
              obtain ⟨T, hT⟩ : ∃ T, T = u + x.toNat * 2 ^ (7 * i) := ⟨_, rfl⟩
              rw [← hT] at ho htl
              have HT := Lib.hid hT
              clear hT
              have hand : bits BinOp.and IntKind.u64 (T : Int) 1 = ((T % 2 : Nat) : Int) := by
                rw [show (1 : Int) = ((1 : Nat) : Int) from rfl, u64_and_nat T 1 htl (by omega), Nat.and_one_is_mod]
              by_cases hpar : T % 2 = 0
              · have dpar : (bits BinOp.and IntKind.u64 (T : Int) 1 == 1) = false := by rw [hand, hpar]; rfl
                clear hand
                go_wp2
                go_ret
                rw [Hst.out, ← HT.out, zd_even hpar, ← HWS.out]
                refine ⟨ret_int ?_, (HR2.out).drew.drew, grown_drew (grown_drew HG2.out)⟩
                show _ = ((T / 2 : Nat) : Int)
                omega
              · have dpar : (bits BinOp.and IntKind.u64 (T : Int) 1 == 1) = true := by rw [hand, show T % 2 = 1 by omega]; rfl
                clear hand
                go_wp2
                go_ret
                rw [Hst.out, ← HT.out, zd_odd hpar, ← HWS.out]
                refine ⟨ret_int ?_, (HR2.out).drew.drew, grown_drew (grown_drew HG2.out)⟩
                rw [show (T : Int) / 2 = ((T / 2 : Nat) : Int) by omega, u64_not _ (by omega)]
                unfold wrap64
                omega
        · by_cases h0 : 0 < i
          · by_cases hx0 : x.toNat = 0
            · have d9 : ((i : Int) == 9) = false := by simp; omega
              have d0 : decide ((0 : Int) < (i : Int)) = true := by simp; omega
              have dx : ((x.toNat : Int) == 0) = true := by simp; omega
              have dc : decide ((x.toNat : Int) < 128) = true := by simp; omega
              have hbad := rdI_bad (n := 9 - i) (u := u) HX.out (show (i = 9 ∧ 1 < x.toNat) ∨ (0 < i ∧ x.toNat = 0) by omega)
              rw [show 9 - i + 1 = 10 - i by omega, HE.out] at hbad
              have hse := HSE.out _ hbad
              have Hse := Lib.hid hse
              clear hbad hse
              go_wp2_with fail
              rw [← HWS.out]
              have hfl := rfail_any r 9 0 _ _ wS.drew.drew HRS.out
              rw [show ((9 : Nat) : Int) = 9 from rfl] at hfl
              refine hfl.mono ?_
              rintro e w5 ⟨rfl, hr5, hg5⟩
              go_wp2
              go_ret
              rw [Hse.out]
              exact ⟨rfl, ⟨by omega, _, _, hr5⟩, grown_tr (grown_drew (grown_drew HG2.out)) hg5⟩
            · by_cases hc : x.toNat < 128
              · have d9 : ((i : Int) == 9) = false := by simp; omega
                have d0 : decide ((0 : Int) < (i : Int)) = true := by simp; omega
                have dx : ((x.toNat : Int) == 0) = false := by simp; omega
                have dc : decide ((x.toNat : Int) < 128) = true := by simp; omega
                have hend := rdI_end (n := 9 - i) (u := u) HX.out (show ¬ ((i = 9 ∧ 1 < x.toNat) ∨ (0 < i ∧ x.toNat = 0)) by omega) (by omega)
                rw [show 9 - i + 1 = 10 - i by omega, HE.out] at hend
                have hst := HST.out _ _ hend
                have Hst := Lib.hid hst
                clear hend hst
                have ho := grp_or hi hu hx8 (by omega) (2 ^ (7 * i)) (by simp)
                rw [Nat.mod_eq_of_lt (by omega : x.toNat < 128)] at ho
                have htl := grp_lt64 (c := x.toNat) hi hu hx8 (by omega)
                rw [Nat.mod_eq_of_lt (by omega)] at htl
                obtain ⟨T, hT⟩ : ∃ T, T = u + x.toNat * 2 ^ (7 * i) := ⟨_, rfl⟩
                rw [← hT] at ho htl
                have HT := Lib.hid hT
                clear hT
                have hand : bits BinOp.and IntKind.u64 (T : Int) 1 = ((T % 2 : Nat) : Int) := by
                  rw [show (1 : Int) = ((1 : Nat) : Int) from rfl, u64_and_nat T 1 htl (by omega), Nat.and_one_is_mod]
                by_cases hpar : T % 2 = 0
                · have dpar : (bits BinOp.and IntKind.u64 (T : Int) 1 == 1) = false := by rw [hand, hpar]; rfl
                  clear hand
                  go_wp2
                  go_ret
                  rw [Hst.out, ← HT.out, zd_even hpar, ← HWS.out]
                  refine ⟨ret_int ?_, (HR2.out).drew.drew, grown_drew (grown_drew HG2.out)⟩
                  show _ = ((T / 2 : Nat) : Int)
                  omega
                · have dpar : (bits BinOp.and IntKind.u64 (T : Int) 1 == 1) = true := by rw [hand, show T % 2 = 1 by omega]; rfl
                  clear hand
                  go_wp2
                  go_ret
                  rw [Hst.out, ← HT.out, zd_odd hpar, ← HWS.out]
                  refine ⟨ret_int ?_, (HR2.out).drew.drew, grown_drew (grown_drew HG2.out)⟩
                  rw [show (T : Int) / 2 = ((T / 2 : Nat) : Int) by omega, u64_not _ (by omega)]
                  unfold wrap64
                  omega
              · have d9 : ((i : Int) == 9) = false := by simp; omega
                have d0 : decide ((0 : Int) < (i : Int)) = true := by simp; omega
                have dx : ((x.toNat : Int) == 0) = false := by simp; omega
                have dc : decide ((x.toNat : Int) < 128) = false := by simp; omega
                have hgo := rdI_go (n := 9 - i) (u := u) HX.out (show ¬ ((i = 9 ∧ 1 < x.toNat) ∨ (0 < i ∧ x.toNat = 0)) by omega) (by omega)
                rw [show 9 - i + 1 = 10 - i by omega, HE.out] at hgo
                have Hgo := Lib.hid hgo
                clear hgo
                go_wp2
                have ho := grp_or hi hu hx8 (by omega) _ rfl
                have hlt2 := grp_lt hi hu (x := x.toNat % 128) (by omega)
                rw [show x.toNat % 128 = x.toNat - 128 by omega] at ho hlt2
                rw [← HWS.out]
                refine ⟨⟨i + 1, u + (x.toNat - 128) * 2 ^ (7 * i), q + 1, by congr 1, ret_i' ho, by omega, hlt2, (HR2.out).drew.drew, grown_drew (grown_drew HG2.out), ?_⟩, by simp [intOf]; omega⟩
                rw [show 10 - (i + 1) = 9 - i by omega]
                exact Hgo.out.symm
          · by_cases hc : x.toNat < 128
            · by_cases hx0 : x.toNat = 0
              · have d9 : ((i : Int) == 9) = false := by simp; omega
                have d0 : decide ((0 : Int) < (i : Int)) = false := by simp; omega
                have dx : ((x.toNat : Int) == 0) = true := by simp; omega
                have dc : decide ((x.toNat : Int) < 128) = true := by simp; omega
                have Hx0 := Lib.hid hx0
                have hend := rdI_end (n := 9 - i) (u := u) HX.out (show ¬ ((i = 9 ∧ 1 < x.toNat) ∨ (0 < i ∧ x.toNat = 0)) by omega) (by omega)
                rw [show 9 - i + 1 = 10 - i by omega, HE.out] at hend
                have hst := HST.out _ _ hend
                have Hst := Lib.hid hst
                clear hend hst
                have ho := grp_or hi hu hx8 (by omega) (2 ^ (7 * i)) (by simp)
                rw [Nat.mod_eq_of_lt (by omega : x.toNat < 128)] at ho
                have htl := grp_lt64 (c := x.toNat) hi hu hx8 (by omega)
                rw [Nat.mod_eq_of_lt (by omega)] at htl
                clear hx0
                obtain ⟨T, hT⟩ : ∃ T, T = u + x.toNat * 2 ^ (7 * i) := ⟨_, rfl⟩
                rw [← hT] at ho htl
                have HT := Lib.hid hT
                clear hT
                have hand : bits BinOp.and IntKind.u64 (T : Int) 1 = ((T % 2 : Nat) : Int) := by
                  rw [show (1 : Int) = ((1 : Nat) : Int) from rfl, u64_and_nat T 1 htl (by omega), Nat.and_one_is_mod]
                by_cases hpar : T % 2 = 0
                · have dpar : (bits BinOp.and IntKind.u64 (T : Int) 1 == 1) = false := by rw [hand, hpar]; rfl
                  clear hand
                  go_wp2
                  go_ret
                  rw [Hst.out, ← HT.out, zd_even hpar, ← HWS.out]
                  refine ⟨ret_int ?_, (HR2.out).drew.drew, grown_drew (grown_drew HG2.out)⟩
                  show _ = ((T / 2 : Nat) : Int)
                  omega
                · have dpar : (bits BinOp.and IntKind.u64 (T : Int) 1 == 1) = true := by rw [hand, show T % 2 = 1 by omega]; rfl
                  clear hand
                  go_wp2
                  go_ret
                  rw [Hst.out, ← HT.out, zd_odd hpar, ← HWS.out]
                  refine ⟨ret_int ?_, (HR2.out).drew.drew, grown_drew (grown_drew HG2.out)⟩
                  rw [show (T : Int) / 2 = ((T / 2 : Nat) : Int) by omega, u64_not _ (by omega)]
                  unfold wrap64
                  omega
              · have d9 : ((i : Int) == 9) = false := by simp; omega
                have d0 : decide ((0 : Int) < (i : Int)) = false := by simp; omega
                have dx : ((x.toNat : Int) == 0) = false := by simp; omega
                have dc : decide ((x.toNat : Int) < 128) = true := by simp; omega
                have hend := rdI_end (n := 9 - i) (u := u) HX.out (show ¬ ((i = 9 ∧ 1 < x.toNat) ∨ (0 < i ∧ x.toNat = 0)) by omega) (by omega)
                rw [show 9 - i + 1 = 10 - i by omega, HE.out] at hend
                have hst := HST.out _ _ hend
                have Hst := Lib.hid hst
                clear hend hst
                have ho := grp_or hi hu hx8 (by omega) (2 ^ (7 * i)) (by simp)
                rw [Nat.mod_eq_of_lt (by omega : x.toNat < 128)] at ho
                have htl := grp_lt64 (c := x.toNat) hi hu hx8 (by omega)
                rw [Nat.mod_eq_of_lt (by omega)] at htl
                obtain ⟨T, hT⟩ : ∃ T, T = u + x.toNat * 2 ^ (7 * i) := ⟨_, rfl⟩
                rw [← hT] at ho htl
                have HT := Lib.hid hT
                clear hT
                have hand : bits BinOp.and IntKind.u64 (T : Int) 1 = ((T % 2 : Nat) : Int) := by
                  rw [show (1 : Int) = ((1 : Nat) : Int) from rfl, u64_and_nat T 1 htl (by omega), Nat.and_one_is_mod]
                by_cases hpar : T % 2 = 0
                · have dpar : (bits BinOp.and IntKind.u64 (T : Int) 1 == 1) = false := by rw [hand, hpar]; rfl
                  clear hand
                  go_wp2
                  go_ret
                  rw [Hst.out, ← HT.out, zd_even hpar, ← HWS.out]
                  refine ⟨ret_int ?_, (HR2.out).drew.drew, grown_drew (grown_drew HG2.out)⟩
                  show _ = ((T / 2 : Nat) : Int)
                  omega
                · have dpar : (bits BinOp.and IntKind.u64 (T : Int) 1 == 1) = true := by rw [hand, show T % 2 = 1 by omega]; rfl
                  clear hand
                  go_wp2
                  go_ret
                  rw [Hst.out, ← HT.out, zd_odd hpar, ← HWS.out]
                  refine ⟨ret_int ?_, (HR2.out).drew.drew, grown_drew (grown_drew HG2.out)⟩
                  rw [show (T : Int) / 2 = ((T / 2 : Nat) : Int) by omega, u64_not _ (by omega)]
                  unfold wrap64
                  omega
            · have d9 : ((i : Int) == 9) = false := by simp; omega
              have d0 : decide ((0 : Int) < (i : Int)) = false := by simp; omega
              have dc : decide ((x.toNat : Int) < 128) = false := by simp; omega
              have hgo := rdI_go (n := 9 - i) (u := u) HX.out (show ¬ ((i = 9 ∧ 1 < x.toNat) ∨ (0 < i ∧ x.toNat = 0)) by omega) (by omega)
              rw [show 9 - i + 1 = 10 - i by omega, HE.out] at hgo
              have Hgo := Lib.hid hgo
              clear hgo
              go_wp2
              have ho := grp_or hi hu hx8 (by omega) _ rfl
              have hlt2 := grp_lt hi hu (x := x.toNat % 128) (by omega)
              rw [show x.toNat % 128 = x.toNat - 128 by omega] at ho hlt2
              rw [← HWS.out]
              refine ⟨⟨i + 1, u + (x.toNat - 128) * 2 ^ (7 * i), q + 1, by congr 1, ret_i' ho, by omega, hlt2, (HR2.out).drew.drew, grown_drew (grown_drew HG2.out), ?_⟩, by simp [intOf]; omega⟩
              rw [show 10 - (i + 1) = 9 - i by omega]
              exact Hgo.out.symm
      · obtain rfl : q = L.length := by omega
        have dq : decide ((L.length : Int) ≤ (L.length : Int)) = true := by simp
        have hnone := rdI_none (n := 9 - i) (i := i) (u := u) (p := L.length) (L := L) (by simp)
        rw [show 9 - i + 1 = 10 - i by omega, HE.out] at hnone
        have hse := HSE.out _ hnone
        have Hse := Lib.hid hse
        clear hnone hse
        go_wp2_with fail
        refine wp_region_lex (fun _ => True) (by kernel_rfl) (by kernel_rfl) trivial ?_
        repeat (refine lex_q rfl ⟨default, trivial⟩ ?_; go_big_quiet_step (fail); refine wpQuiet_nil ?_)
        refine lex_e rfl ?_
        go_wp2_with fail
        refine lex_go trivial ?_
        repeat (refine lex_q rfl ⟨default, trivial⟩ ?_; go_big_quiet_step (fail); refine wpQuiet_nil ?_)
        refine lex_e rfl ?_
        go_wp2_with fail
        refine lex_go trivial ?_
        repeat (refine lex_q rfl ⟨default, trivial⟩ ?_; go_big_quiet_step (fail); refine wpQuiet_nil ?_)
        refine lex_nil ?_
        go_wp2_with fail
        have hfl := rfail_any r 8 0 _ _ wr.drew Hrow.out
        rw [show ((8 : Nat) : Int) = 8 from rfl] at hfl
        refine hfl.mono ?_
        rintro e w5 ⟨rfl, hr5, hg5⟩
        go_wp2
        go_ret
        rw [Hse.out]
        exact ⟨rfl, ⟨by omega, _, _, hr5⟩, grown_tr (grown_drew hg) hg5⟩
end Go.Proofs.Ytgjjfjibfleonaa
