/-
  The walk of the law FrameCuts: it returns true and writes nothing that was there. Conditions: what the row says of its arguments.
-/
import Derived.Test.YtmakcggmaphanaaScan
import Derived.Test.YtmakcggmaphanaaScanLaw
import Derived.WalkKit
import Derived.ProofKit
import Derived.OpenShut
import Derived.ShutString
import Derived.Below
namespace Go.Proofs.Ytmakcggmaphanaa.frameCuts
open Go.ChangeShapes Go.WideShapes Go.ChangeAt Go.RowKit
open Go.ChangeMaps (open_string shut_string)
set_option linter.unusedVariables false
set_option maxRecDepth 100000

theorem walk (a0 : Option Addr) (len0 cap0 : Nat) (z0 : List Int) (a1 : Int) (w : World) (w0 : IsRow .u8 w a0 len0 cap0 z0) (w1 : (Lit.int .i64 a1).wf = true) :
    Calls Try.prog 12 #[.slice a0 len0 cap0, .int .i64 a1] w fun e w' => e = .returned (.bool true) ∧ Below w.heap.size w w' := by
  obtain ⟨lc, hlc, hcapc, hmaxc, hbc⟩ := IsRow.bytes w0
  have hat := wf_i64 w1
  clear w0 w1
  go_enter Try.func12, Try.ntmps12
  go_wp2_with fail
  refine (awake11_any _).mono ?_
  rintro e w1 ⟨rfl, hb1⟩
  go_wp2_with fail
  refine (bodies_any _ lc _ _ (hbc.ext hb1)).mono ?_
  rintro e w2 ⟨v2, ll, rfl, hll, hsm, hL2, hb2⟩
  go_wp2_with fail
  refine (lseal_any _ ll _ _ hL2 (fun li hli => Nat.le_trans (hsm li hli) (by omega)) (by omega)).mono ?_
  rintro e w3 ⟨v3, rfl, hown3, hb3⟩
  have hb13 : Below w.heap.size w w3 := Below.ext (Below.ext hb1 hb2) hb3
  have hLlen : (ll.flatMap sealL).length ≤ 100000 := by
    have := flat_len 12 ll hsm
    omega
  have hsm' : ∀ li ∈ ll, li.length ≤ 4096 := fun li hli => Nat.le_trans (hsm li hli) (by omega)
  have hcut := scans_cut ll hsm'
  have hF : ∀ (i : Nat) (li : List UInt8), ll[i]? = some li → ((ll.take (i + 1)).flatMap sealL).length = ((ll.take i).flatMap sealL).length + (8 + li.length) := by
    intro i li h
    rw [flat_snoc ll i li h, List.length_append, sealL_length]
  obtain ⟨L, hL⟩ : ∃ L, L = ll.flatMap sealL := ⟨_, rfl⟩
  obtain ⟨F, hFd⟩ : ∃ F : Nat → Nat, F = fun i => ((ll.take i).flatMap sealL).length := ⟨_, rfl⟩
  have hF0 : F 0 = 0 := by rw [hFd]; rfl
  have hFl : F ll.length = L.length := by rw [hFd, hL]; simp
  have hF' : ∀ (i : Nat) (li : List UInt8), ll[i]? = some li → F (i + 1) = F i + (8 + li.length) := by rw [hFd]; exact hF
  have hcut' : ∀ k i, k ≤ L.length → i ≤ ll.length → F i ≤ k → (∀ li, ll[i]? = some li → k < F i + 8 + li.length) → ∃ qs, Scans (L.take k) 0 qs (F i) ∧ qs.length = i := by rw [hFd, hL]; exact hcut
  rw [← hL] at hown3 hLlen
  have HF := Lib.hid hF'
  have Hcut := Lib.hid hcut'
  have Hsm := Lib.hid hsm'
  have HF0 := Lib.hid hF0
  have HFl := Lib.hid hFl
  clear hL hFd hF hcut hF' hcut' hsm hsm' hF0 hFl
  obtain ⟨A3, c3, rfl, hc31, hc32, _⟩ := hown3.bytes
  have hLL3 := hL2.ext hb3
  obtain ⟨A2, c2, vs2, rfl, hc21, hc22, _⟩ := id hLL3
  unfold maxLen at hc22
  go_wp2_with fail
  refine (mod_any _ _ _ (by omega) (by omega) hat.1 hat.2).mono ?_
  rintro e w4 ⟨rfl, rfl⟩
  have hk0 := Int.emod_nonneg a1 (b := ((L.length : Int) + 1)) (by omega)
  have hk1 := Int.emod_lt_of_pos a1 (b := ((L.length : Int) + 1)) (by omega)
  obtain ⟨kk, hk⟩ := Int.eq_ofNat_of_zero_le hk0
  rw [hk] at hk1 ⊢
  clear hk hk0
  have hkL : kk ≤ L.length := by omega
  go_wp2_with fail
  go_loopw [8, 9, 10, 29] (fun a b _ i wr => ∃ j : Nat, j ≤ ll.length ∧ a = .int .i64 j ∧ b = .int .i64 (F j : Nat) ∧ i = .int .i64 j ∧ F j ≤ kk ∧ wr = w3) (fun _ _ _ i _ => ll.length - (intOf i).toNat)
  case atStart => exact ⟨0, by omega, rfl, by rw [HF0.out]; rfl, rfl, by rw [HF0.out]; omega, rfl⟩
  case round =>
    obtain ⟨j, hj, rfl, rfl, rfl, hjk, rfl⟩ := hrel
    by_cases hlt : j < ll.length
    · obtain ⟨b9, o9, x9, li, rfl, _, _, hli, hcx, hbx⟩ := hLL3.at_ hlt
      obtain ⟨A9, c9, rfl, hc91, hc92, _⟩ := hbx
      have hFj := HF.out j li hli
      have hlil : li.length ≤ 4096 := Hsm.out li (List.mem_of_getElem? hli)
      have Hli := Lib.hid hli
      clear hli
      by_cases hfit : F j + 8 + li.length ≤ kk
      · have d1 : decide ((kk : Int) < (F j : Int) + 8 + (li.length : Int)) = false := by simp; omega
        have HFj := Lib.hid hFj
        clear hFj
        go_wp2
        go_roundw
        case rel => exact ⟨j + 1, by omega, by go_num, by rw [HFj.out]; go_num, by go_num, by rw [HFj.out]; omega, by trivial⟩
        case measure => simp [intOf]; omega
      · have d1 : decide ((kk : Int) < (F j : Int) + 8 + (li.length : Int)) = true := by simp; omega
        obtain ⟨qs, hs, hq⟩ := Hcut.out kk j hkL hj hjk (by intro li' h'; rw [Hli.out] at h'; cases h'; omega)
        have Hs := Lib.hid hs
        have Hq := Lib.hid hq
        clear hs hq hFj
        go_wp2_with fail
        refine (scan_any _ (L.take kk) _ _ (hown3.bytes.take_ (by omega)) (by rw [List.length_take]; omega) qs _ Hs.out).mono ?_
        rintro e w12 ⟨v12, rfl, hL12, hb12⟩
        have hm12 : (qs.map (bodyL (L.take kk))).length = j := by rw [List.length_map, Hq.out]
        obtain ⟨A12, c12, vs12, rfl, hc121, hc122, _⟩ := id hL12
        rw [hm12]
        have hmk := mkBytes (8 + kk % 40) (by omega)
        have ecast : ((8 + kk % 40 : Nat) : Int) = 8 + (kk : Int) % 40 := by omega
        rw [ecast] at hmk
        clear ecast
        go_wp2_with fail
        clear hmk
        have hz := (BRow.new w12 5 (List.replicate (8 + kk % 40) 0)).bytes (S := fun _ => True) (n := 8 + kk % 40) (c := 8 + kk % 40) (by simp) (Nat.le_refl _) (by unfold maxLen; omega) trivial
        refine (next_any _ _ _ _ 0 hz (by simp; omega)).mono ?_
        rw [nextL_zeros _ (by omega)]
        rintro e w13 ⟨v13, rfl, hB13, hb13'⟩
        go_wp2
        go_ret
        exact ⟨by simp, Below.ext (Below.ext hb13 (Below.ext hb12 ((Below.refl _ _).alloc (Nat.le_refl _) _))) hb13'⟩
    · obtain rfl : j = ll.length := by omega
      obtain ⟨qs, hs, hq⟩ := Hcut.out kk ll.length hkL hj hjk (by intro li' h'; simp at h')
      have Hs := Lib.hid hs
      have Hq := Lib.hid hq
      clear hs hq
      go_wp2_with fail
      refine (scan_any _ (L.take kk) _ _ (hown3.bytes.take_ (by omega)) (by rw [List.length_take]; omega) qs _ Hs.out).mono ?_
      rintro e w12 ⟨v12, rfl, hL12, hb12⟩
      have hm12 : (qs.map (bodyL (L.take kk))).length = ll.length := by rw [List.length_map, Hq.out]
      obtain ⟨A12, c12, vs12, rfl, hc121, hc122, _⟩ := id hL12
      rw [hm12]
      have hmk := mkBytes (8 + kk % 40) (by omega)
      have ecast : ((8 + kk % 40 : Nat) : Int) = 8 + (kk : Int) % 40 := by omega
      rw [ecast] at hmk
      clear ecast
      go_wp2_with fail
      clear hmk
      have hz := (BRow.new w12 5 (List.replicate (8 + kk % 40) 0)).bytes (S := fun _ => True) (n := 8 + kk % 40) (c := 8 + kk % 40) (by simp) (Nat.le_refl _) (by unfold maxLen; omega) trivial
      refine (next_any _ _ _ _ 0 hz (by simp; omega)).mono ?_
      rw [nextL_zeros _ (by omega)]
      rintro e w13 ⟨v13, rfl, hB13, hb13'⟩
      go_wp2
      go_ret
      exact ⟨by simp, Below.ext (Below.ext hb13 (Below.ext hb12 ((Below.refl _ _).alloc (Nat.le_refl _) _))) hb13'⟩
end Go.Proofs.Ytmakcggmaphanaa.frameCuts
