/-
  The walk of the law FrameNexts: it returns true and writes nothing that was there. Conditions: what the row says of its arguments.
-/
import Derived.Test.YtmakcggmaphanaaFrameLaw
import Derived.WalkKit
import Derived.ProofKit
import Derived.OpenShut
import Derived.ShutString
import Derived.Below
namespace Go.Proofs.Ytmakcggmaphanaa.frameNexts
open Go.ChangeShapes Go.WideShapes Go.ChangeAt Go.RowKit
open Go.ChangeMaps (open_string shut_string)
set_option linter.unusedVariables false
set_option maxRecDepth 100000

theorem walk (a0 : Option Addr) (len0 cap0 : Nat) (z0 : List Int) (a1 : Int) (a2 : Option Addr) (len2 cap2 : Nat) (z2 : List Int) (a3 : Int) (a4 : Int) (w : World) (w0 : IsRow .u8 w a0 len0 cap0 z0) (w1 : (Lit.int .i64 a1).wf = true) (w2 : IsRow .u8 w a2 len2 cap2 z2) (w3 : (Lit.int .i64 a3).wf = true) (w4 : (Lit.int .u8 a4).wf = true) :
    Calls Try.prog 8 #[.slice a0 len0 cap0, .int .i64 a1, .slice a2 len2 cap2, .int .i64 a3, .int .u8 a4] w fun e w' => e = .returned (.bool true) ∧ Below w.heap.size w w' := by
  obtain ⟨l, hl, hcap, hmax, hba⟩ := IsRow.bytes w0
  obtain ⟨lc, hlc, hcapc, hmaxc, hbc⟩ := IsRow.bytes w2
  have hat := wf_i64 w1
  have hn := wf_i64 w3
  have hy := wf_u8 w4
  obtain ⟨by_, rfl⟩ := Int.eq_ofNat_of_zero_le hy.1
  have hby : by_ < 256 := by omega
  clear w0 w1 w2 w3 w4 hy
  go_enter Try.func8, Try.ntmps8
  go_wp2_with fail
  refine (awake11_any _).mono ?_
  rintro e w1 ⟨rfl, hb1⟩
  by_cases hlen : len0 ≤ 2000
  · go_wp2_with fail
    refine (bodies_any _ lc _ _ (hbc.ext hb1)).mono ?_
    rintro e w2 ⟨v2, ll, rfl, hll, hsm, hL2, hb2⟩
    go_wp2_with fail
    refine (lseal_any _ ll _ _ hL2 (fun li hli => Nat.le_trans (hsm li hli) (by omega)) (by omega)).mono ?_
    rintro e w3 ⟨v3, rfl, hown3, hb3⟩
    have hb13 : Below w.heap.size w w3 := Below.ext (Below.ext hb1 hb2) hb3
    have hLlen : (ll.flatMap sealL).length ≤ 100000 := by
      have := flat_len 12 ll hsm
      omega
    generalize ll.flatMap sealL = L at hown3 hLlen
    obtain ⟨A3, c3, rfl, hc31, hc32, _⟩ := hown3.bytes
    clear hL2 hsm
    have hB3 := hba.ext hb13
    go_wp2_with fail
    refine (same_any _ l _ _ a1 hB3 (by omega)).mono ?_
    rintro e w4 ⟨rfl, hb4⟩
    have hB4 := hB3.ext hb4
    have hO4 := hown3.ext hb4
    go_wp2_with fail
    refine (mod_any _ _ _ (by omega) (by omega) hat.1 hat.2).mono ?_
    rintro e w5 ⟨rfl, rfl⟩
    go_wp2_with fail
    refine (same_any _ l _ _ _ hB4 (by omega)).mono ?_
    rintro e w5 ⟨rfl, hb5⟩
    have hO5 := hO4.ext hb5
    go_wp2_with fail
    refine (mod_any _ _ _ (by omega) (by omega) hat.1 hat.2).mono ?_
    rintro e w6 ⟨rfl, rfl⟩
    go_wp2_with fail
    refine (same_any _ L _ _ _ hO5.bytes (by omega)).mono ?_
    rintro e w6 ⟨rfl, hb6⟩
    have hO6 := hO5.ext hb6
    go_wp2_with fail
    refine (same_any _ L _ _ _ hO6.bytes (by omega)).mono ?_
    rintro e w7 ⟨rfl, hb7⟩
    have hO7 := hO6.ext hb7
    have hb17 : Below w.heap.size w w7 := Below.ext (Below.ext (Below.ext (Below.ext hb13 hb4) hb5) hb6) hb7
    by_cases hL0 : L.length = 0
    · have d0 : ((L.length : Int) == 0) = true := by simpa using hL0
      clear hL0
      go_wp2_with fail
      go_ret
      exact ⟨rfl, hb17⟩
    · have d0 : ((L.length : Int) == 0) = false := by simpa using hL0
      have hLpos : 0 < L.length := by omega
      go_wp2_with (refine wpList_appB (o := ⟨some 55, _, _, _, _, _⟩) _ _ 23 5 w7.heap.size [] L A3 L.length c3 (.slice none 0 0) L.length rfl rfl Try.underlying23 (by kernel_rfl) rfl rfl (OwnB.nil_ _ _ _) hO7.bytes (by simp) (by simp; omega) (Nat.le_refl _) ?_; intro A8 c8 w8 hown8 hgr8 hat8 hc81 hc82)
      rw [List.nil_append] at hown8
      have hb8 : Below w7.heap.size w7 w8 := OwnB.grow (OwnB.nil_ w7 w7.heap.size 5) hgr8 (Below.refl _ _) (Nat.le_refl _) (Nat.le_refl _)
      obtain ⟨g8, rfl, hg81, hg82⟩ := hown8.some_ hLpos
      clear hgr8 hat8 d0 hL0
      refine (mod_any _ _ _ (by omega) (by omega) hn.1 hn.2).mono ?_
      rintro e w9 ⟨rfl, rfl⟩
      have hk0 := Int.emod_nonneg a3 (b := (L.length : Int)) (by omega)
      have hk1 := Int.emod_lt_of_pos a3 (b := (L.length : Int)) (by omega)
      obtain ⟨k, hk⟩ := Int.eq_ofNat_of_zero_le hk0
      have Hk := Lib.hid hk
      rw [hk] at hk1 ⊢
      clear hk hk0
      obtain ⟨x, hx, hcx⟩ := hown8.at_ (j := k) (by omega)
      have hfx := hown8.frozen k
      have hxs : bits BinOp.xor IntKind.u8 (x.toNat : Int) (by_ : Int) = ((x.toNat ^^^ by_ : Nat) : Int) := u8_xor_nat _ _ (u8_lt x) hby
      clear hx
      have hset := hown8.set_ k (x ^^^ UInt8.ofNat by_)
      have eby : (x ^^^ UInt8.ofNat by_).toNat = x.toNat ^^^ by_ := by rw [UInt8.toNat_xor]; congr 1; simp; omega
      rw [eby] at hset
      clear eby
      have hb9 : Below w7.heap.size w7 (w8.setCell ⟨g8, k, none⟩ (.int .u8 ((x.toNat ^^^ by_ : Nat) : Int))) := hb8.setCell hg81 _
      go_wp2_with fail
      refine (same_any _ (L.set k (x ^^^ UInt8.ofNat by_)) _ _ _ hset.bytes (by rw [List.length_set]; omega)).mono ?_
      rintro e w9 ⟨rfl, hb10⟩
      have hO9 := (hO7.ext hb9).ext hb10
      go_wp2_with fail
      refine (mod_any _ _ _ (by omega) (by omega) hn.1 hn.2).mono ?_
      rintro e w10 ⟨rfl, rfl⟩
      rw [Hk.out]
      go_wp2_with fail
      refine (same_any _ (L.take k) _ _ _ (hO9.bytes.take_ (by omega)) (by simp; omega)).mono ?_
      rintro e w10 ⟨rfl, hb11⟩
      go_wp2_with fail
      go_ret
      exact ⟨rfl, Below.ext (Below.ext (Below.ext hb17 hb9) hb10) hb11⟩
  · go_wp2_with fail
    go_ret
    exact ⟨rfl, hb1⟩
end Go.Proofs.Ytmakcggmaphanaa.frameNexts
