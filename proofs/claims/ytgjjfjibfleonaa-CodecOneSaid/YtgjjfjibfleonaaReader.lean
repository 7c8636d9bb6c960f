/-
  codec.reader: a number is read, or a failure is thrown.
-/
import Derived.Test.YtgjjfjibfleonaaProg
import Derived.Test.YtgjjfjibfleonaaNum
import Derived.Test.YtgjjfjibfleonaaLex
import Derived.Test.YtgjjfjibfleonaaOwn
namespace Go.Proofs.Ytgjjfjibfleonaa
open Go.RowKit
set_option maxRecDepth 100000
set_option linter.unusedVariables false

/-- block r is a reader at offset p -/
def Rdr (B : Nat) (w : World) (r : Nat) (L : List UInt8) (p : Nat) : Prop := B ≤ r ∧ ∃ (A : Option Addr) (c : Nat), w.heap[r]? = some (.cells #[.slice A L.length c, .int .i64 (p : Int)] 93 (0, 0)) ∧ Bytes (· < B) w (.slice A L.length c) L ∧ p ≤ L.length ∧ L.length ≤ 1000000000
theorem Rdr.kept {B : Nat} {w w' : World} {r p : Nat} {L : List UInt8} (h : Rdr B w r L p) (hk : ∀ b, b < w.heap.size → (b < B ∨ b = r) → w'.heap[b]? = w.heap[b]?) : Rdr B w' r L p := by
  obtain ⟨hB, A, c, h1, h2, h3, h4⟩ := h
  exact ⟨hB, A, c, (hk r (Array.getElem?_eq_some_iff.1 h1).1 (.inr rfl)).trans h1, h2.keep (fun b hb hs => hk b hb (.inl hs)), h3, h4⟩
theorem Rdr.lt {B : Nat} {w : World} {r p : Nat} {L : List UInt8} (h : Rdr B w r L p) : r < w.heap.size := by
  obtain ⟨_, A, c, h1, _⟩ := h
  exact (Array.getElem?_eq_some_iff.1 h1).1
theorem Rdr.ext {B : Nat} {w w' : World} {r p : Nat} {L : List UInt8} (h : Rdr B w r L p) (hb : Below w.heap.size w w') : Rdr B w' r L p := h.kept fun b hb' _ => hb.block b hb'
theorem Rdr.grown {B : Nat} {w w' : World} {r p : Nat} {L : List UInt8} {row : Option Nat} (h : Rdr B w r L p) (hg : w.grownBy w' row) (hr : ∀ m, row = some m → B ≤ m ∧ m ≠ r) : Rdr B w' r L p :=
  h.kept fun b hb' hs => hg.block b hb' (fun e => by
    have := hr b e.symm
    rcases hs with hs | hs
    · omega
    · exact this.2 hs)
theorem Rdr.drew {B : Nat} {w : World} {r p : Nat} {L : List UInt8} (h : Rdr B w r L p) : Rdr B w.drew r L p := h
/-- the failure of an error -/
def failV (k : Nat) : Value := .iface 90 (.agg #[.int .i64 (k : Int)])
def failP (k : Nat) : List PanicEntry := [{ v := failV k, recovered := false }]
/-- what a reading leaves: a value and the reader behind it, or a failure -/
def Reads {α : Type} (B : Nat) (r : Nat) (L : List UInt8) (w : World) (x : Except Nat (α × Nat)) (V : α → World → Value → Prop) (e : Ending) (w' : World) : Prop :=
  match x with
  | .ok (a, q) => (∃ v, e = .returned v ∧ V a w' v) ∧ Rdr B w' r L q ∧ w.grownBy w' (some r)
  | .error k => e = .panicked (failP k) ∧ w.grownBy w' (some r)
def rdInt (L : List UInt8) (p : Nat) : Except Nat (Int × Nat) := match rdU L p with | .ok (u, q) => .ok (zd u, q) | .error k => .error k

theorem ret_i {a b : Int} (h : a = b) : Value.int .i64 b = Value.int .i64 a := by rw [h]
theorem ret_i' {a b : Int} {k : IntKind} (h : a = b) : Value.int k a = Value.int k b := by rw [h]
set_option maxHeartbeats 1000000 in
theorem rint_any (B r p : Nat) (L : List UInt8) (w : World) (h : Rdr B w r L p) :
    Calls Try.prog 27 #[.pointer (some ⟨r, 0, none⟩)] w fun e w' => Reads B r L w (rdInt L p) (fun a _ v => v = .int .i64 a) e w' := by
  go_enter Try.func27, Try.ntmps27
  go_wp2
  go_loopw [3, 4] (fun t s wr => ∃ (i u q : Nat), s = .int .i64 i ∧ t = .int .u64 u ∧ i ≤ 9 ∧ u < 2 ^ (7 * i) ∧ Rdr B wr r L q ∧ w.grownBy wr (some r) ∧ rdI L (10 - i) i u q = rdU L p) (fun _ s _ => 10 - (intOf s).toNat)
  case atStart => exact ⟨0, 0, p, rfl, rfl, by omega, by simp, h, ⟨rfl, rfl, rfl, Nat.le_refl _, fun _ _ _ => rfl⟩, rfl⟩
  case round =>
    obtain ⟨i, u, q, rfl, rfl, hi, hu, hR, hg, he⟩ := hrel
    have hR' := hR
    obtain ⟨hB, A, c, hrow, hby, hq, hL⟩ := hR
    have h0 : wr.cell? ⟨r, 0, none⟩ = some (.slice A L.length c) := by rw [cell_of_row _ _ _ _ _ _ hrow]; rfl
    have h1 : wr.cell? ⟨r, 1, none⟩ = some (.int .i64 (q : Int)) := by rw [cell_of_row _ _ _ _ _ _ hrow]; rfl
    have HE := Lib.hid he
    have Hrow := Lib.hid hrow
    clear he hrow h
    by_cases hlt : q < L.length
    · have dq : ((q : Int) == (L.length : Int)) = false := by simp; omega
      have hby2 := hby
      obtain ⟨A', c', e, _, _, hcs⟩ := hby
      cases e
      obtain ⟨b, off, x, rfl, hbB, hbs, hx, hcx⟩ := hcs.byte hlt
      have hf : wr.frozen? ⟨r, 1, none⟩ = false := frozen_of_row _ _ _ _ _ Hrow.out
      have hx8 := u8_lt x
      have hgS : wr.grownBy (wr.setCell ⟨r, 1, none⟩ (.int .i64 ((q : Int) + 1))) (some r) := grown_set ⟨rfl, rfl, rfl, Nat.le_refl _, fun _ _ _ => rfl⟩
      have hR2 : Rdr B (wr.setCell ⟨r, 1, none⟩ (.int .i64 ((q : Int) + 1))) r L (q + 1) := ⟨hB, some ⟨b, off, none⟩, c, heap_setCell_same _ r 1 _ _ _ Hrow.out, hby2.keep (fun b' hb' hs => hgS.block b' hb' (by intro e; cases e; omega)), by omega, hL⟩
      have hg2 : w.grownBy (wr.setCell ⟨r, 1, none⟩ (.int .i64 ((q : Int) + 1))) (some r) := ⟨hgS.os.trans hg.os, hgS.tape.trans hg.tape, hgS.output.trans hg.output, Nat.le_trans hg.size hgS.size, fun i hi hne => (hgS.block i (Nat.lt_of_lt_of_le hi hg.size) hne).trans (hg.block i hi hne)⟩
      have HX := Lib.hid hx
      have HR2 := Lib.hid hR2
      have HG2 := Lib.hid hg2
      clear hx hcs hR2 hg2 hgS
      go_wp2_with fail
      refine wp_region_lex (fun _ => True) (by kernel_rfl) (by kernel_rfl) trivial ?_
      repeat (refine lex_q rfl ⟨default, trivial⟩ ?_; go_big_quiet_step (fail); refine wpQuiet_nil ?_)
      refine lex_e rfl ?_
      go_wp2_with fail
      refine lex_go trivial ?_
      repeat (refine lex_q rfl ⟨default, trivial⟩ ?_; go_big_quiet_step (fail); refine wpQuiet_nil ?_)
      refine lex_e rfl ?_
      go_wp2_with fail
      refine lex_go trivial ?_
      repeat (refine lex_q rfl ⟨default, trivial⟩ ?_; go_big_quiet_step (fail); refine wpQuiet_nil ?_)
      refine lex_nil ?_
      go_wp2_with fail
      go_wp2_with fail
      refine wp_region_lex (fun _ => True) (by kernel_rfl) (by kernel_rfl) trivial ?_
      repeat (refine lex_q rfl ⟨default, trivial⟩ ?_; go_big_quiet_step (fail); refine wpQuiet_nil ?_)
      refine lex_e rfl ?_
      go_wp2_with fail
      refine lex_go trivial ?_
      repeat (refine lex_q rfl ⟨default, trivial⟩ ?_; go_big_quiet_step (fail); refine wpQuiet_nil ?_)
      refine lex_e rfl ?_
      go_wp2_with fail
      refine lex_go trivial ?_
      repeat (refine lex_q rfl ⟨default, trivial⟩ ?_; go_big_quiet_step (fail); refine wpQuiet_nil ?_)
      refine lex_e rfl ?_
      go_wp2_with fail
      refine lex_go trivial ?_
      repeat (refine lex_q rfl ⟨default, trivial⟩ ?_; go_big_quiet_step (fail); refine wpQuiet_nil ?_)
      refine lex_nil ?_
      by_cases h9 : i = 9
      · by_cases hx1 : 1 < x.toNat
        · have d9 : ((i : Int) == 9) = true := by simp; omega
          have d1 : decide ((1 : Int) < (x.toNat : Int)) = true := by simp; omega
          have hbad := rdI_bad (n := 9 - i) (u := u) HX.out (show (i = 9 ∧ 1 < x.toNat) ∨ (0 < i ∧ x.toNat = 0) by omega)
          rw [show 9 - i + 1 = 10 - i by omega, HE.out] at hbad
          have Hbad := Lib.hid hbad
          clear hbad
          go_wp2
          refine ⟨rfl, ?_⟩
          unfold Reads rdInt
          rw [Hbad.out]
          exact ⟨rfl, grown_drew (grown_drew HG2.out)⟩
        · by_cases hx0 : x.toNat = 0
          · have d9 : ((i : Int) == 9) = true := by simp; omega
            have d1 : decide ((1 : Int) < (x.toNat : Int)) = false := by simp; omega
            have d0 : decide ((0 : Int) < (i : Int)) = true := by simp; omega
            have dx : ((x.toNat : Int) == 0) = true := by simp; omega
            have hbad := rdI_bad (n := 9 - i) (u := u) HX.out (show (i = 9 ∧ 1 < x.toNat) ∨ (0 < i ∧ x.toNat = 0) by omega)
            rw [show 9 - i + 1 = 10 - i by omega, HE.out] at hbad
            have Hbad := Lib.hid hbad
            clear hbad
            go_wp2
            refine ⟨rfl, ?_⟩
            unfold Reads rdInt
            rw [Hbad.out]
            exact ⟨rfl, grown_drew (grown_drew HG2.out)⟩
          · have d9 : ((i : Int) == 9) = true := by simp; omega
            have d1 : decide ((1 : Int) < (x.toNat : Int)) = false := by simp; omega
            have d0 : decide ((0 : Int) < (i : Int)) = true := by simp; omega
            have dx : ((x.toNat : Int) == 0) = false := by simp; omega
            have dc : decide ((x.toNat : Int) < 128) = true := by simp; omega
            have hend := rdI_end (n := 9 - i) (u := u) HX.out (show ¬ ((i = 9 ∧ 1 < x.toNat) ∨ (0 < i ∧ x.toNat = 0)) by omega) (by omega)
            rw [show 9 - i + 1 = 10 - i by omega, HE.out] at hend
            have Hend := Lib.hid hend
            clear hend
            go_wp2
            have hv : zd (u + x.toNat * 2 ^ (7 * i)) = _ := (zd_run _ (by have := grp_lt64 (c := x.toNat) hi hu hx8 (by omega); rw [Nat.mod_eq_of_lt (by omega)] at this; exact this)).symm
            have ho := grp_or hi hu hx8 (by omega) 9223372036854775808 (by rw [h9]; rfl)
            rw [Nat.mod_eq_of_lt (by omega : x.toNat < 128)] at ho
            rw [← ho] at hv
            go_ret
            unfold Reads rdInt
            rw [Hend.out]
            exact ⟨⟨_, rfl, ret_i hv⟩, (HR2.out).drew.drew, grown_drew (grown_drew HG2.out)⟩
      · by_cases h0 : 0 < i
        · by_cases hx0 : x.toNat = 0
          · have d9 : ((i : Int) == 9) = false := by simp; omega
            have d0 : decide ((0 : Int) < (i : Int)) = true := by simp; omega
            have dx : ((x.toNat : Int) == 0) = true := by simp; omega
            have hbad := rdI_bad (n := 9 - i) (u := u) HX.out (show (i = 9 ∧ 1 < x.toNat) ∨ (0 < i ∧ x.toNat = 0) by omega)
            rw [show 9 - i + 1 = 10 - i by omega, HE.out] at hbad
            have Hbad := Lib.hid hbad
            clear hbad
            go_wp2
            refine ⟨rfl, ?_⟩
            unfold Reads rdInt
            rw [Hbad.out]
            exact ⟨rfl, grown_drew (grown_drew HG2.out)⟩
          · by_cases hc : x.toNat < 128
            · have d9 : ((i : Int) == 9) = false := by simp; omega
              have d0 : decide ((0 : Int) < (i : Int)) = true := by simp; omega
              have dx : ((x.toNat : Int) == 0) = false := by simp; omega
              have dc : decide ((x.toNat : Int) < 128) = true := by simp; omega
              have hend := rdI_end (n := 9 - i) (u := u) HX.out (show ¬ ((i = 9 ∧ 1 < x.toNat) ∨ (0 < i ∧ x.toNat = 0)) by omega) (by omega)
              rw [show 9 - i + 1 = 10 - i by omega, HE.out] at hend
              have Hend := Lib.hid hend
              clear hend
              go_wp2
              have hv : zd (u + x.toNat * 2 ^ (7 * i)) = _ := (zd_run _ (by have := grp_lt64 (c := x.toNat) hi hu hx8 (by omega); rw [Nat.mod_eq_of_lt (by omega)] at this; exact this)).symm
              have ho := grp_or hi hu hx8 (by omega) _ rfl
              rw [Nat.mod_eq_of_lt (by omega : x.toNat < 128)] at ho
              rw [← ho] at hv
              go_ret
              unfold Reads rdInt
              rw [Hend.out]
              exact ⟨⟨_, rfl, ret_i hv⟩, (HR2.out).drew.drew, grown_drew (grown_drew HG2.out)⟩
            · have d9 : ((i : Int) == 9) = false := by simp; omega
              have d0 : decide ((0 : Int) < (i : Int)) = true := by simp; omega
              have dx : ((x.toNat : Int) == 0) = false := by simp; omega
              have dc : decide ((x.toNat : Int) < 128) = false := by simp; omega
              have hgo := rdI_go (n := 9 - i) (u := u) HX.out (show ¬ ((i = 9 ∧ 1 < x.toNat) ∨ (0 < i ∧ x.toNat = 0)) by omega) (by omega)
              rw [show 9 - i + 1 = 10 - i by omega, HE.out] at hgo
              have Hgo := Lib.hid hgo
              clear hgo
              go_wp2
              have ho := grp_or hi hu hx8 (by omega) _ rfl
              have hlt2 := grp_lt hi hu (x := x.toNat % 128) (by omega)
              rw [show x.toNat % 128 = x.toNat - 128 by omega] at ho hlt2
              refine ⟨⟨i + 1, u + (x.toNat - 128) * 2 ^ (7 * i), q + 1, by congr 1, ret_i' ho, by omega, hlt2, (HR2.out).drew.drew, grown_drew (grown_drew HG2.out), ?_⟩, by simp [intOf]; omega⟩
              rw [show 10 - (i + 1) = 9 - i by omega]
              exact Hgo.out.symm
        · by_cases hc : x.toNat < 128
          · have d9 : ((i : Int) == 9) = false := by simp; omega
            have d0 : decide ((0 : Int) < (i : Int)) = false := by simp; omega
            have dc : decide ((x.toNat : Int) < 128) = true := by simp; omega
            have hend := rdI_end (n := 9 - i) (u := u) HX.out (show ¬ ((i = 9 ∧ 1 < x.toNat) ∨ (0 < i ∧ x.toNat = 0)) by omega) (by omega)
            rw [show 9 - i + 1 = 10 - i by omega, HE.out] at hend
            have Hend := Lib.hid hend
            clear hend
            go_wp2
            have hv : zd (u + x.toNat * 2 ^ (7 * i)) = _ := (zd_run _ (by have := grp_lt64 (c := x.toNat) hi hu hx8 (by omega); rw [Nat.mod_eq_of_lt (by omega)] at this; exact this)).symm
            have ho := grp_or hi hu hx8 (by omega) _ rfl
            rw [Nat.mod_eq_of_lt (by omega : x.toNat < 128)] at ho
            rw [← ho] at hv
            go_ret
            unfold Reads rdInt
            rw [Hend.out]
            exact ⟨⟨_, rfl, ret_i hv⟩, (HR2.out).drew.drew, grown_drew (grown_drew HG2.out)⟩
          · have d9 : ((i : Int) == 9) = false := by simp; omega
            have d0 : decide ((0 : Int) < (i : Int)) = false := by simp; omega
            have dc : decide ((x.toNat : Int) < 128) = false := by simp; omega
            have hgo := rdI_go (n := 9 - i) (u := u) HX.out (show ¬ ((i = 9 ∧ 1 < x.toNat) ∨ (0 < i ∧ x.toNat = 0)) by omega) (by omega)
            rw [show 9 - i + 1 = 10 - i by omega, HE.out] at hgo
            have Hgo := Lib.hid hgo
            clear hgo
            go_wp2
            have ho := grp_or hi hu hx8 (by omega) _ rfl
            have hlt2 := grp_lt hi hu (x := x.toNat % 128) (by omega)
            rw [show x.toNat % 128 = x.toNat - 128 by omega] at ho hlt2
            refine ⟨⟨i + 1, u + (x.toNat - 128) * 2 ^ (7 * i), q + 1, by congr 1, ret_i' ho, by omega, hlt2, (HR2.out).drew.drew, grown_drew (grown_drew HG2.out), ?_⟩, by simp [intOf]; omega⟩
            rw [show 10 - (i + 1) = 9 - i by omega]
            exact Hgo.out.symm
    · obtain rfl : q = L.length := by omega
      have dq : ((L.length : Int) == (L.length : Int)) = true := by simp
      have hnone := rdI_none (n := 9 - i) (i := i) (u := u) (p := L.length) (L := L) (by simp)
      rw [show 9 - i + 1 = 10 - i by omega, HE.out] at hnone
      have Hnone := Lib.hid hnone
      clear hnone
      go_wp2_with fail
      refine wp_region_lex (fun _ => True) (by kernel_rfl) (by kernel_rfl) trivial ?_
      repeat (refine lex_q rfl ⟨default, trivial⟩ ?_; go_big_quiet_step (fail); refine wpQuiet_nil ?_)
      refine lex_e rfl ?_
      go_wp2_with fail
      refine lex_go trivial ?_
      repeat (refine lex_q rfl ⟨default, trivial⟩ ?_; go_big_quiet_step (fail); refine wpQuiet_nil ?_)
      refine lex_e rfl ?_
      go_wp2_with fail
      refine lex_go trivial ?_
      repeat (refine lex_q rfl ⟨default, trivial⟩ ?_; go_big_quiet_step (fail); refine wpQuiet_nil ?_)
      refine lex_nil ?_
      go_wp2_with fail
      go_wp2
      refine ⟨rfl, ?_⟩
      unfold Reads rdInt
      rw [Hnone.out]
      exact ⟨rfl, ⟨hg.os, hg.tape, hg.output, hg.size, hg.block⟩⟩
end Go.Proofs.Ytgjjfjibfleonaa
