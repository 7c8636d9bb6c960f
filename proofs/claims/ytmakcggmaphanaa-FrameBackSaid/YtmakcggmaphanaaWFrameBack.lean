/-
  The walk of the law FrameBack: it returns true and writes nothing that was there. Conditions: what the row says of its arguments.
-/
import Derived.Test.YtmakcggmaphanaaScan
import Derived.Test.YtmakcggmaphanaaScanLaw
import Derived.WalkKit
import Derived.ProofKit
import Derived.OpenShut
import Derived.ShutString
import Derived.Below
namespace Go.Proofs.Ytmakcggmaphanaa.frameBack
open Go.ChangeShapes Go.WideShapes Go.ChangeAt Go.RowKit
open Go.ChangeMaps (open_string shut_string)
set_option linter.unusedVariables false
set_option maxRecDepth 100000

theorem walk (a0 : Option Addr) (len0 cap0 : Nat) (z0 : List Int) (a1 : Option Addr) (len1 cap1 : Nat) (z1 : List Int) (w : World) (w0 : IsRow .u8 w a0 len0 cap0 z0) (w1 : IsRow .u8 w a1 len1 cap1 z1) :
    Calls Try.prog 11 #[.slice a0 len0 cap0, .slice a1 len1 cap1] w fun e w' => e = .returned (.bool true) ∧ Below w.heap.size w w' := by
  obtain ⟨lc, hlc, hcapc, hmaxc, hbc⟩ := IsRow.bytes w0
  obtain ⟨l, hl, hcap, hmax, hba⟩ := IsRow.bytes w1
  clear w0 w1
  go_enter Try.func11, Try.ntmps11
  go_wp2_with fail
  refine (awake11_any _).mono ?_
  rintro e w1 ⟨rfl, hb1⟩
  by_cases hlen : len1 ≤ 2000
  · go_wp2_with fail
    refine (bodies_any _ lc _ _ (hbc.ext hb1)).mono ?_
    rintro e w2 ⟨v2, ll, rfl, hll, hsm, hL2, hb2⟩
    go_wp2_with fail
    refine (lseal_any _ ll _ _ hL2 (fun li hli => Nat.le_trans (hsm li hli) (by omega)) (by omega)).mono ?_
    rintro e w3 ⟨v3, rfl, hown3, hb3⟩
    have hb13 : Below w.heap.size w w3 := Below.ext (Below.ext hb1 hb2) hb3
    have hLlen : (ll.flatMap sealL).length ≤ 100000 := by
      have := flat_len 12 ll hsm
      omega
    obtain ⟨qs, ps, en, hs, hq, hen⟩ := scans_back ll l (fun li hli => Nat.le_trans (hsm li hli) (by omega))
    obtain ⟨qs2, hs2, hq2⟩ := scans_all ll (fun li hli => Nat.le_trans (hsm li hli) (by omega))
    generalize ll.flatMap sealL = L at hown3 hLlen hs hq hen hs2
    obtain ⟨A3, c3, rfl, hc31, hc32, _⟩ := hown3.bytes
    have hLL3 := hL2.ext hb3
    obtain ⟨A2, c2, vs2, rfl, hc21, hc22, _⟩ := id hLL3
    unfold maxLen at hc22
    clear hsm
    have hB3 := hba.ext hb13
    have Hl := Lib.hid hl
    have Hs := Lib.hid hs
    have Hq := Lib.hid hq
    have Hs2 := Lib.hid hs2
    have Hq2 := Lib.hid hq2
    clear hl hs hq hs2 hq2
    go_wp2_with (first | (refine wpList_appB (o := ⟨some 23, _, _, _, _, _⟩) _ _ 23 5 w3.heap.size [] L A3 L.length c3 (.slice none 0 0) L.length rfl rfl Try.underlying23 (by kernel_rfl) rfl rfl (OwnB.nil_ _ _ _) hown3.bytes (by simp) (by simp; omega) (Nat.le_refl _) ?_; intro A8 c8 w8 hown8 hgr8 hat8 hc81 hc82; rw [List.nil_append] at hown8; have hb8 : Below w3.heap.size w3 w8 := OwnB.grow (OwnB.nil_ w3 w3.heap.size 5) hgr8 (Below.refl _ _) (Nat.le_refl _) (Nat.le_refl _); have hsz8 := hb8.size; have hB8 := hB3.ext hb8) | (refine wpList_appB (o := ⟨some 25, _, _, _, _, _⟩) _ _ 23 5 w3.heap.size L l a1 len1 cap1 (.slice A8 L.length c8) (L.length + len1) rfl rfl Try.underlying23 (by kernel_rfl) rfl rfl hown8 hB8 rfl (by omega) (by omega) ?_; intro A9 c9 w9 hown9 hgr9 hat9 hc91 hc92))
    have hb9 : Below w3.heap.size w3 w9 := hown8.grow hgr9 hb8 (Nat.le_refl _) (by omega)
    have hCl : (L ++ l).length = L.length + len1 := by rw [List.length_append, Hl.out]
    refine (scan_any _ (L ++ l) _ _ hown9.bytes (by omega) (qs ++ ps) en Hs.out).mono ?_
    rintro e w10 ⟨v10, rfl, hL10, hb10⟩
    rw [List.map_append, Hq.out] at hL10
    have hLL10 := (hLL3.ext hb9).ext hb10
    have hO10 := (hown3.ext hb9).ext hb10
    obtain ⟨A10, c10, vs10, rfl, hc101, hc102, _⟩ := id hL10
    unfold maxLen at hc102
    have hlm : ll.length ≤ (ll ++ ps.map (bodyL (L ++ l))).length := by simp
    obtain ⟨MM, hMM⟩ : ∃ MM, MM = ll ++ ps.map (bodyL (L ++ l)) := ⟨_, rfl⟩
    rw [← hMM] at hL10 hlm hc101 ⊢
    have HMM := Lib.hid hMM
    clear hMM hCl hgr8 hat8 hgr9 hat9
    have d1 : decide (MM.length < ll.length) = false := by simpa using hlm
    have d2 : decide (en < L.length) = false := by simpa using hen
    go_wp2_with fail
    go_loopw [9, 42] (fun _ i wq => ∃ j : Nat, j ≤ ll.length ∧ i = .int .i64 j ∧ Below w10.heap.size w10 wq) (fun _ i _ => ll.length - (intOf i).toNat)
    case atStart => exact ⟨0, by omega, rfl, Below.refl _ _⟩
    case round =>
      obtain ⟨j, hj, rfl, hbq⟩ := hrel
      by_cases hjl : j < ll.length
      · obtain ⟨b9, o9, x9, li, rfl, _, _, hli, hcx, hbx⟩ := (hLL10.ext hbq).at_ hjl
        obtain ⟨b10, o10, y10, li', rfl, _, _, hli', hcy, hby⟩ := (hL10.ext hbq).at_ (Nat.lt_of_lt_of_le hjl hlm)
        rw [HMM.out, List.getElem?_append_left hjl, hli] at hli'
        cases hli'
        clear hli
        go_wp2_with fail
        refine wp_region_lex (fun _ => True) (by kernel_rfl) (by kernel_rfl) trivial ?_
        repeat (refine lex_q rfl ⟨default, trivial⟩ ?_; go_big_quiet_step (fail); refine wpQuiet_nil ?_)
        refine lex_e rfl ?_
        go_wp2_with fail
        refine lex_go trivial ?_
        repeat (refine lex_q rfl ⟨default, trivial⟩ ?_; go_big_quiet_step (fail); refine wpQuiet_nil ?_)
        refine lex_e rfl ?_
        go_wp2_with fail
        refine lex_go trivial ?_
        repeat (refine lex_q rfl ⟨default, trivial⟩ ?_; go_big_quiet_step (fail); refine wpQuiet_nil ?_)
        refine lex_e rfl ?_
        go_wp2_with fail
        refine (samebytes_eq _ _ li _ _ _ hbx.drew hby.drew).mono ?_
        rintro e w11 ⟨rfl, hb11⟩
        go_wp2_with fail
        refine lex_go trivial ?_
        repeat (refine lex_q rfl ⟨default, trivial⟩ ?_; go_big_quiet_step (fail); refine wpQuiet_nil ?_)
        refine lex_nil ?_
        go_wp2_with fail
        go_wp2
        go_roundw
        case rel => exact ⟨j + 1, by omega, by go_num, Below.ext hbq.drew hb11⟩
        case measure => simp [intOf]; omega
      · obtain rfl : j = ll.length := by omega
        go_wp2_with fail
        refine (scan_any _ L _ _ (hO10.ext hbq).bytes (by omega) qs2 L.length Hs2.out).mono ?_
        rintro e w12 ⟨v12, rfl, hL12, hb12⟩
        have hm12 : (qs2.map (bodyL L)).length = ll.length := by rw [List.length_map, Hq2.out]
        obtain ⟨A12, c12, vs12, rfl, hc121, hc122, _⟩ := id hL12
        rw [hm12]
        go_wp2
        go_ret
        exact ⟨by simp, Below.ext (Below.ext (Below.ext (Below.ext hb13 hb9) hb10) hbq) hb12⟩
  · go_wp2_with fail
    go_ret
    exact ⟨rfl, hb1⟩
end Go.Proofs.Ytmakcggmaphanaa.frameBack
