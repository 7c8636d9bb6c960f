/-
  The walk of the law CrcXors: it returns true and writes nothing that was there. Conditions: what the row says of its arguments.
-/
import Derived.Test.YtmakcggmaphanaaCrcWalk
import Derived.Test.YtmakcggmaphanaaCrcLaw
import Derived.Test.YtmakcggmaphanaaLex
import Derived.WalkKit
import Derived.ProofKit
import Derived.OpenShut
import Derived.ShutString
import Derived.Below
namespace Go.Proofs.Ytmakcggmaphanaa.crcXors
open Go.ChangeShapes Go.WideShapes Go.ChangeAt Go.RowKit
open Go.ChangeMaps (open_string shut_string)
set_option linter.unusedVariables false
set_option maxRecDepth 100000

theorem walk (a0 : Option Addr) (len0 cap0 : Nat) (z0 : List Int) (a1 : Option Addr) (len1 cap1 : Nat) (z1 : List Int) (a2 : Option Addr) (len2 cap2 : Nat) (z2 : List Int) (w : World) (w0 : IsRow .u8 w a0 len0 cap0 z0) (w1 : IsRow .u8 w a1 len1 cap1 z1) (w2 : IsRow .u8 w a2 len2 cap2 z2) :
    Calls Try.prog 5 #[.slice a0 len0 cap0, .slice a1 len1 cap1, .slice a2 len2 cap2] w fun e w' => e = .returned (.bool true) ∧ Below w.heap.size w w' := by
  obtain ⟨la, hla, hcap0, hmax0, hba⟩ := IsRow.bytes w0
  obtain ⟨lb, hlb, hcap1, hmax1, hbb⟩ := IsRow.bytes w1
  obtain ⟨lc, hlc, hcap2, hmax2, hbc⟩ := IsRow.bytes w2
  clear w0 w1 w2
  obtain ⟨n, hn⟩ : ∃ n, n = min (min len0 len1) len2 := ⟨_, rfl⟩
  have hmin := fun w => run_min3 (P := Try.prog) w #[3, 3, 3] 3 len0 len1 len2 n hn
  have hn0 : n ≤ len0 := by omega
  have hn1 : n ≤ len1 := by omega
  have hn2 : n ≤ len2 := by omega
  clear hn
  by_cases hbig : n ≤ 1000
  · have hmk := mkBytes n (by omega)
    go_enter Try.func5, Try.ntmps5
    go_wp2_with fail
    refine (awake09_any _).mono ?_
    rintro e w1 ⟨rfl, hb1⟩
    go_wp2_with fail
    clear hmk hmin
    obtain ⟨X, hX⟩ : ∃ X, X = zip3 (la.take n) (lb.take n) (lc.take n) := ⟨_, rfl⟩
    have hXl : X.length = n := by rw [hX, zip3_length _ _ _ (by simp; omega) (by simp; omega)]; simp; omega
    have HX := Lib.hid hX
    have HXl := Lib.hid hXl
    clear hX hXl
    go_loopw [9, 25] (fun _ i wr => ∃ k : Nat, k ≤ n ∧ i = .int .i64 k ∧ BRow wr w1.heap.size 5 (part0 X k) ∧ Below w1.heap.size w1 wr) (fun _ i _ => n - (intOf i).toNat)
    case atStart => exact ⟨0, by omega, rfl, by rw [part0_zero, HXl.out]; exact BRow.new _ _ _, (Below.refl _ _).alloc (Nat.le_refl _) _⟩
    case round =>
      obtain ⟨k, hk, rfl, hrow, hbw⟩ := hrel
      by_cases hlt : k < n
      · obtain ⟨x, hx, hcx⟩ := hrow.at_ (j := k) (by rw [part0_length, HXl.out]; exact hlt)
        have hfx := hrow.frozen k
        obtain ⟨A0, c0, e0, _, _, hcs0⟩ := (hba.ext hb1).ext hbw
        obtain ⟨A1, c1, e1, _, _, hcs1⟩ := (hbb.ext hb1).ext hbw
        obtain ⟨A2, c2, e2, _, _, hcs2⟩ := (hbc.ext hb1).ext hbw
        cases e0
        cases e1
        cases e2
        obtain ⟨b0, o0, x0, rfl, _, _, hx0, hc0⟩ := hcs0.byte (k := k) (by omega)
        obtain ⟨b1, o1, x1, rfl, _, _, hx1, hc1⟩ := hcs1.byte (k := k) (by omega)
        obtain ⟨b2, o2, x2, rfl, _, _, hx2, hc2⟩ := hcs2.byte (k := k) (by omega)
        have hs1 := u8_xor_nat x0.toNat x1.toNat (u8_lt _) (u8_lt _)
        have hs2 := u8_xor_nat (x0.toNat ^^^ x1.toNat) x2.toNat (Nat.xor_lt_two_pow (n := 8) (u8_lt _) (u8_lt _)) (u8_lt _)
        have Hrow := Lib.hid hrow
        have H0 := Lib.hid hx0
        have H1 := Lib.hid hx1
        have H2 := Lib.hid hx2
        clear hrow hx0 hx1 hx2 hx hcs0 hcs1 hcs2 hba hbb hbc
        go_wp2_with fail
        refine wp_region_lex (fun _ => True) (by kernel_rfl) (by kernel_rfl) trivial ?_
        repeat (refine lex_q rfl ⟨default, trivial⟩ ?_; go_big_quiet_step (fail); refine wpQuiet_nil ?_)
        refine lex_e rfl ?_
        go_wp2_with fail
        refine lex_go trivial ?_
        repeat (refine lex_q rfl ⟨default, trivial⟩ ?_; go_big_quiet_step (fail); refine wpQuiet_nil ?_)
        refine lex_e rfl ?_
        go_wp2_with fail
        refine lex_go trivial ?_
        repeat (refine lex_q rfl ⟨default, trivial⟩ ?_; go_big_quiet_step (fail); refine wpQuiet_nil ?_)
        refine lex_e rfl ?_
        go_wp2_with fail
        refine lex_go trivial ?_
        repeat (refine lex_q rfl ⟨default, trivial⟩ ?_; go_big_quiet_step (fail); refine wpQuiet_nil ?_)
        refine lex_e rfl ?_
        go_wp2_with fail
        refine lex_go trivial ?_
        repeat (refine lex_q rfl ⟨default, trivial⟩ ?_; go_big_quiet_step (fail); refine wpQuiet_nil ?_)
        refine lex_nil ?_
        go_wp2_with fail
        go_roundw
        case rel =>
          refine ⟨k + 1, by omega, by go_num, ?_, hbw.drew.setCell (Nat.le_refl _) _⟩
          have hg : X[k]? = some (x0 ^^^ x1 ^^^ x2) := by
            rw [HX.out]
            exact zip3_get _ _ _ k x0 x1 x2 (by rw [List.getElem?_take_of_lt hlt]; exact H0.out) (by rw [List.getElem?_take_of_lt hlt]; exact H1.out) (by rw [List.getElem?_take_of_lt hlt]; exact H2.out)
          rw [← part0_set X k _ hg]
          have := (Hrow.out.set_ k (x0 ^^^ x1 ^^^ x2)).drew
          rw [UInt8.toNat_xor, UInt8.toNat_xor] at this
          exact this
        case measure => simp [intOf]; omega
      · obtain rfl : k = n := by omega
        rw [part0_full X k (by rw [HXl.out]; omega)] at hrow
        have hB0 := (hba.ext hb1).ext hbw
        have hB1 := (hbb.ext hb1).ext hbw
        have hB2 := (hbc.ext hb1).ext hbw
        have hBX := hrow.bytes (S := fun _ => True) (n := k) (c := k) HXl.out.symm (Nat.le_refl _) (by unfold maxLen; omega) trivial
        have hu := Lib.hid (upd_xor3 (la.take k) (lb.take k) (lc.take k) X (by rw [HXl.out]; simp; omega) (by rw [HXl.out]; simp; omega) (by rw [HXl.out]; simp; omega) (by rw [HX.out]; exact num_zip3 _ _ _ (by simp; omega) (by simp; omega)))
        clear hrow hba hbb hbc
        go_wp2_with fail
        refine wp_region_lex (fun _ => True) (by kernel_rfl) (by kernel_rfl) trivial ?_
        repeat (refine lex_q rfl ⟨default, trivial⟩ ?_; go_big_quiet_step (fail); refine wpQuiet_nil ?_)
        refine lex_e rfl ?_
        go_wp2_with fail
        refine (of_any _ X _ _ hBX.drew).mono ?_
        rintro e w2 ⟨rfl, hb2⟩
        go_wp2_with fail
        refine lex_go trivial ?_
        repeat (refine lex_q rfl ⟨default, trivial⟩ ?_; go_big_quiet_step (fail); refine wpQuiet_nil ?_)
        refine lex_e rfl ?_
        go_wp2_with fail
        refine (of_any _ (la.take k) _ _ ((hB0.drew.ext hb2).take_ hn0)).mono ?_
        rintro e w3 ⟨rfl, hb3⟩
        go_wp2_with fail
        refine lex_go trivial ?_
        repeat (refine lex_q rfl ⟨default, trivial⟩ ?_; go_big_quiet_step (fail); refine wpQuiet_nil ?_)
        refine lex_e rfl ?_
        go_wp2_with fail
        refine (of_any _ (lb.take k) _ _ (((hB1.drew.ext hb2).ext hb3).take_ hn1)).mono ?_
        rintro e w4 ⟨rfl, hb4⟩
        go_wp2_with fail
        refine lex_go trivial ?_
        repeat (refine lex_q rfl ⟨default, trivial⟩ ?_; go_big_quiet_step (fail); refine wpQuiet_nil ?_)
        refine lex_e rfl ?_
        go_wp2_with fail
        refine (of_any _ (lc.take k) _ _ ((((hB2.drew.ext hb2).ext hb3).ext hb4).take_ hn2)).mono ?_
        rintro e w5 ⟨rfl, hb5⟩
        go_wp2_with fail
        refine lex_go trivial ?_
        repeat (refine lex_q rfl ⟨default, trivial⟩ ?_; go_big_quiet_step (fail); refine wpQuiet_nil ?_)
        refine lex_nil ?_
        go_wp2_with fail
        go_ret
        have g0 := upd_lt (s := 0) (by omega) (la.take k)
        have g1 := upd_lt (s := 0) (by omega) (lb.take k)
        have g2 := upd_lt (s := 0) (by omega) (lc.take k)
        refine ⟨ret_bool (b := true) ?_, Below.ext (Below.ext (Below.ext (Below.ext (Below.ext hb1 hbw).drew hb2) hb3) hb4) hb5⟩
        rw [u32_xor_step g0 g1, u32_xor_step (Nat.xor_lt_two_pow (n := 32) (by omega) (by omega)) g2, ← hu.out]
        simp
  · go_enter Try.func5, Try.ntmps5
    go_wp2_with fail
    refine (awake09_any _).mono ?_
    rintro e w1 ⟨rfl, hb1⟩
    go_wp2_with fail
    go_ret
    exact ⟨rfl, hb1⟩
end Go.Proofs.Ytmakcggmaphanaa.crcXors
