/-
  The walk of the law FrameScans: it returns true and writes nothing that was there. Conditions: what the row says of its arguments.
-/
import Derived.Test.YtmakcggmaphanaaScanRef
import Derived.WalkKit
import Derived.ProofKit
import Derived.OpenShut
import Derived.ShutString
import Derived.Below
namespace Go.Proofs.Ytmakcggmaphanaa.frameScans
open Go.ChangeShapes Go.WideShapes Go.ChangeAt Go.RowKit
open Go.ChangeMaps (open_string shut_string)
set_option linter.unusedVariables false
set_option maxRecDepth 100000

theorem walk (a0 : Option Addr) (len0 cap0 : Nat) (z0 : List Int) (a1 : Option Addr) (len1 cap1 : Nat) (z1 : List Int) (a2 : Int) (w : World) (w0 : IsRow .u8 w a0 len0 cap0 z0) (w1 : IsRow .u8 w a1 len1 cap1 z1) (w2 : (Lit.int .i64 a2).wf = true) :
    Calls Try.prog 10 #[.slice a0 len0 cap0, .slice a1 len1 cap1, .int .i64 a2] w fun e w' => e = .returned (.bool true) ∧ Below w.heap.size w w' := by
  obtain ⟨l, hl, hcap, hmax, hba⟩ := IsRow.bytes w0
  obtain ⟨lc, hlc, hcapc, hmaxc, hbc⟩ := IsRow.bytes w1
  have hat := wf_i64 w2
  clear w0 w1 w2
  go_enter Try.func10, Try.ntmps10
  go_wp2_with fail
  refine (awake11_any _).mono ?_
  rintro e w1 ⟨rfl, hb1⟩
  by_cases hlen : len0 ≤ 2000
  · go_wp2_with fail
    refine (bodies_any _ lc _ _ (hbc.ext hb1)).mono ?_
    rintro e w2 ⟨v2, ll, rfl, hll, hsm, hL2, hb2⟩
    go_wp2_with fail
    refine (lseal_any _ ll _ _ hL2 (fun li hli => Nat.le_trans (hsm li hli) (by omega)) (by omega)).mono ?_
    rintro e w3 ⟨v3, rfl, hown3, hb3⟩
    have hb13 : Below w.heap.size w w3 := Below.ext (Below.ext hb1 hb2) hb3
    have hLlen : (ll.flatMap sealL).length ≤ 100000 := by
      have := flat_len 12 ll hsm
      omega
    generalize ll.flatMap sealL = L at hown3 hLlen
    obtain ⟨A3, c3, rfl, hc31, hc32, _⟩ := hown3.bytes
    clear hL2 hsm
    have hB3 := hba.ext hb13
    have hsz2 := hb3.size
    have Hl := Lib.hid hl
    clear hl
    go_wp2_with (refine wpList_appB (o := ⟨some 24, _, _, _, _, _⟩) _ _ 23 5 w2.heap.size L l a0 len0 cap0 (.slice A3 L.length c3) (L.length + len0) rfl rfl Try.underlying23 (by kernel_rfl) rfl rfl hown3 hB3 rfl (by omega) (by omega) ?_; intro A8 c8 w8 hown8 hgr8 hat8 hc81 hc82)
    have hb8 : Below w.heap.size w w8 := hown3.grow hgr8 hb13 (by have := (Below.ext hb1 hb2).size; omega) (by omega)
    have hCl : (L ++ l).length = L.length + len0 := by rw [List.length_append, Hl.out]
    generalize hC : L ++ l = C at *
    have HCl := Lib.hid hCl
    clear hC hCl
    refine (mod_any _ _ _ (by omega) (by omega) hat.1 hat.2).mono ?_
    rintro e w9 ⟨rfl, rfl⟩
    have hk0 := Int.emod_nonneg a2 (b := ((L.length : Int) + len0 + 1)) (by omega)
    have hk1 := Int.emod_lt_of_pos a2 (b := ((L.length : Int) + len0 + 1)) (by omega)
    obtain ⟨kk, hk⟩ := Int.eq_ofNat_of_zero_le hk0
    rw [hk] at hk1 ⊢
    clear hk hk0
    have hB8 : Bytes (fun _ => True) w8 (.slice A8 (L.length + len0) c8) C := hown8.bytes.mono (fun _ _ _ => trivial)
    have hB8k : Bytes (fun _ => True) w8 (.slice A8 kk c8) (C.take kk) := hB8.take_ (by omega)
    have hB0 : Bytes (fun _ => True) w8 (.slice a0 len0 cap0) l := (hba.ext hb8).mono (fun _ _ _ => trivial)
    clear hgr8 hat8 hown3 hown8 hB3
    go_wp2_with fail
    obtain ⟨W2, hW2⟩ : ∃ W, W = w8.alloc (.cells #[.slice a0 len0 cap0, .slice A8 (L.length + len0) c8, .slice A8 kk c8] 23) := ⟨_, rfl⟩
    have hb2' : Below w8.heap.size w8 W2 := by rw [hW2]; exact (Below.refl _ _).alloc (Nat.le_refl _) _
    have key : ∀ k, k < 3 → ∃ v lk, W2.cell? ⟨w8.heap.size, k, none⟩ = some v ∧ Bytes (fun _ => True) W2 v lk ∧ lk.length ≤ 4294967296 := by
      intro k hk
      have hc : W2.cell? ⟨w8.heap.size, k, none⟩ = (#[Value.slice a0 len0 cap0, .slice A8 (L.length + len0) c8, .slice A8 kk c8] : Array Value)[k]? := by
        rw [hW2]
        exact cell_of_row _ _ _ _ _ _ (World.alloc_heap_new _ _)
      match k, hk with
      | 0, _ => exact ⟨_, l, hc, hB0.ext hb2', by rw [Hl.out]; omega⟩
      | 1, _ => exact ⟨_, C, hc, hB8.ext hb2', by rw [HCl.out]; omega⟩
      | 2, _ => exact ⟨_, C.take kk, hc, hB8k.ext hb2', by rw [List.length_take, HCl.out]; omega⟩
    have hsz : w8.heap.size < W2.heap.size := by rw [hW2]; simp
    rw [← hW2]
    clear hW2
    have Hkey := Lib.hid key
    clear key hB8 hB8k hB0
    go_loopw [9, 10, 11, 12, 13, 14, 36] (fun _ _ _ _ _ _ i wr => ∃ k : Nat, k ≤ 3 ∧ i = .int .i64 k ∧ Below W2.heap.size W2 wr) (fun _ _ _ _ _ _ i _ => 3 - (intOf i).toNat)
    case atStart => exact ⟨0, by omega, rfl, Below.refl _ _⟩
    case round =>
      obtain ⟨k, hk, rfl, hbw⟩ := hrel
      by_cases hlt : k < 3
      · obtain ⟨v, lk, hcv, hBv, hlk⟩ := Hkey.out k hlt
        have hcell : wr.cell? ⟨w8.heap.size, k, none⟩ = some v := (hbw.cell (p := ⟨w8.heap.size, k, none⟩) hsz).trans hcv
        have hBr := hBv.ext hbw
        clear hcv hBv
        obtain ⟨ps, en, hps⟩ := scans_ex lk _ 0 (Nat.le_refl _)
        have Hps := Lib.hid hps
        clear hps
        go_wp2_with fail
        refine (scan_any _ lk _ _ hBr hlk ps en Hps.out).mono ?_
        rintro e w9 ⟨v9, rfl, hL9, hb9⟩
        go_wp2_with fail
        refine (refscan_any _ lk _ _ (hBr.ext hb9) hlk ps en Hps.out).mono ?_
        rintro e w10 ⟨v10, rfl, hL10, hb10⟩
        have hL9' := hL9.ext hb10
        generalize ps.map (bodyL lk) = LL at *
        obtain ⟨A9, c9, vs9, rfl, hc91, hc92, _⟩ := id hL9'
        obtain ⟨A10, c10, vs10, rfl, hc101, hc102, _⟩ := id hL10
        unfold maxLen at hc92 hc102
        go_wp2
        go_loopw [14, 62] (fun _ i wq => ∃ j : Nat, j ≤ LL.length ∧ i = .int .i64 j ∧ Below w10.heap.size w10 wq) (fun _ i _ => LL.length - (intOf i).toNat)
        case atStart => exact ⟨0, by omega, rfl, Below.refl _ _⟩
        case round =>
          obtain ⟨j, hj, rfl, hbq⟩ := hrel
          by_cases hjl : j < LL.length
          · obtain ⟨b9, o9, x9, li, rfl, _, _, hli, hcx, hbx⟩ := (hL9'.ext hbq).at_ hjl
            obtain ⟨b10, o10, y10, li', rfl, _, _, hli', hcy, hby⟩ := (hL10.ext hbq).at_ hjl
            rw [hli] at hli'
            cases hli'
            clear hli
            go_wp2_with fail
            refine wp_region_lex (fun _ => True) (by kernel_rfl) (by kernel_rfl) trivial ?_
            repeat (refine lex_q rfl ⟨default, trivial⟩ ?_; go_big_quiet_step (fail); refine wpQuiet_nil ?_)
            refine lex_e rfl ?_
            go_wp2_with fail
            refine lex_go trivial ?_
            repeat (refine lex_q rfl ⟨default, trivial⟩ ?_; go_big_quiet_step (fail); refine wpQuiet_nil ?_)
            refine lex_e rfl ?_
            go_wp2_with fail
            refine lex_go trivial ?_
            repeat (refine lex_q rfl ⟨default, trivial⟩ ?_; go_big_quiet_step (fail); refine wpQuiet_nil ?_)
            refine lex_e rfl ?_
            go_wp2_with fail
            refine (samebytes_eq _ _ li _ _ _ hbx.drew hby.drew).mono ?_
            rintro e w11 ⟨rfl, hb11⟩
            go_wp2_with fail
            refine lex_go trivial ?_
            repeat (refine lex_q rfl ⟨default, trivial⟩ ?_; go_big_quiet_step (fail); refine wpQuiet_nil ?_)
            refine lex_nil ?_
            go_wp2_with fail
            go_wp2
            go_roundw
            case rel => exact ⟨j + 1, by omega, by go_num, Below.ext hbq.drew hb11⟩
            case measure => simp [intOf]; omega
          · obtain rfl : j = LL.length := by omega
            go_wp2
            go_roundw
            case rel => exact ⟨k + 1, by omega, by go_num, Below.ext (Below.ext (Below.ext hbw hb9) hb10) hbq⟩
            case measure => simp [intOf]; omega
      · go_wp2
        go_ret
        exact ⟨rfl, Below.ext (Below.ext hb8 hb2') hbw⟩
  · go_wp2_with fail
    go_ret
    exact ⟨rfl, hb1⟩
end Go.Proofs.Ytmakcggmaphanaa.frameScans
