/-
  The walk of the law FrameSeals: it returns true and writes nothing that was there. Conditions: what the row says of its arguments.
-/
import Derived.Test.YtmakcggmaphanaaFrameWalk
import Derived.WalkKit
import Derived.ProofKit
import Derived.OpenShut
import Derived.ShutString
import Derived.Below
namespace Go.Proofs.Ytmakcggmaphanaa.frameSeals
open Go.ChangeShapes Go.WideShapes Go.ChangeAt Go.RowKit
open Go.ChangeMaps (open_string shut_string)
set_option linter.unusedVariables false
set_option maxRecDepth 100000

theorem walk (a0 : Option Addr) (len0 cap0 : Nat) (z0 : List Int) (a1 : Int) (w : World) (w0 : IsRow .u8 w a0 len0 cap0 z0) (w1 : (Lit.int .u8 a1).wf = true) :
    Calls Try.prog 7 #[.slice a0 len0 cap0, .int .u8 a1] w fun e w' => e = .returned (.bool true) ∧ Below w.heap.size w w' := by
  obtain ⟨l, hl, hcap, hmax, hba⟩ := IsRow.bytes w0
  have hf := wf_u8 w1
  obtain ⟨far, rfl⟩ := Int.eq_ofNat_of_zero_le hf.1
  have hf1 : far < 256 := by omega
  clear w0 w1 hf
  have hmk := mkBytes (4088 + far % 16) (by omega)
  have ecast : ((4088 + far % 16 : Nat) : Int) = 4088 + (far : Int) % 16 := by omega
  rw [ecast] at hmk
  clear ecast
  go_enter Try.func7, Try.ntmps7
  go_wp2_with fail
  refine (awake11_any _).mono ?_
  rintro e w1 ⟨rfl, hb1⟩
  go_wp2_with fail
  clear hmk
  obtain ⟨W2, hW2⟩ : ∃ W, W = (w1.alloc (.cells (brow (List.replicate (4088 + far % 16) 0)) 5)).alloc (.cells #[.slice a0 len0 cap0, .slice (some ⟨w1.heap.size, 0, none⟩) (4088 + far % 16) (4088 + far % 16)] 23) := ⟨_, rfl⟩
  have hb2 : Below w1.heap.size w1 W2 := by rw [hW2]; exact ((Below.refl _ _).alloc (Nat.le_refl _) _).alloc (by simp) _
  have key : ∀ k, k < 2 → ∃ v lk, W2.cell? ⟨w1.heap.size + 1, k, none⟩ = some v ∧ Bytes (fun _ => True) W2 v lk := by
    intro k hk
    have hc : W2.cell? ⟨w1.heap.size + 1, k, none⟩ = (#[Value.slice a0 len0 cap0, .slice (some ⟨w1.heap.size, 0, none⟩) (4088 + far % 16) (4088 + far % 16)] : Array Value)[k]? := by
      rw [hW2]
      exact cell_of_row _ _ _ _ _ _ (heap_alloc2_new _ _ _)
    match k, hk with
    | 0, _ => exact ⟨_, l, hc, ((hba.ext hb1).ext hb2).mono (fun _ _ _ => trivial)⟩
    | 1, _ =>
      refine ⟨_, List.replicate (4088 + far % 16) 0, hc, ?_⟩
      have h := (BRow.new w1 5 (List.replicate (4088 + far % 16) 0)).bytes (S := fun _ => True) (n := 4088 + far % 16) (c := 4088 + far % 16) (by simp) (Nat.le_refl _) (by unfold maxLen; omega) trivial
      rw [hW2]
      exact h.ext ((Below.refl _ _).alloc (Nat.le_refl _) _)
  have hsz : w1.heap.size + 1 < W2.heap.size := by rw [hW2]; simp
  rw [← hW2]
  clear hW2
  have Hkey := Lib.hid key
  clear key
  go_loopw [7, 8, 9, 10, 11, 23] (fun _ _ _ _ _ i wr => ∃ k : Nat, k ≤ 2 ∧ i = .int .i64 k ∧ Below W2.heap.size W2 wr) (fun _ _ _ _ _ i _ => 2 - (intOf i).toNat)
  case atStart => exact ⟨0, by omega, rfl, Below.refl _ _⟩
  case round =>
    obtain ⟨k, hk, rfl, hbw⟩ := hrel
    by_cases hlt : k < 2
    · obtain ⟨v, lk, hcv, hBv⟩ := Hkey.out k hlt
      have hcell : wr.cell? ⟨w1.heap.size + 1, k, none⟩ = some v := (hbw.cell (p := ⟨w1.heap.size + 1, k, none⟩) hsz).trans hcv
      have hBr := hBv.ext hbw
      clear hcv hBv
      by_cases hlk : lk.length ≤ 4096
      · go_wp2_with fail
        refine (seal_any _ lk _ _ hBr hlk).mono ?_
        rintro e w3 ⟨v3, rfl, hown3, hb3⟩
        go_wp2_with fail
        refine (refseal_any _ lk _ _ (hBr.ext hb3) hlk).mono ?_
        rintro e w4 ⟨v4, rfl, hown4, hb4⟩
        go_wp2_with fail
        refine (samebytes_eq _ _ (sealL lk) _ _ _ (hown3.bytes.ext hb4) hown4.bytes).mono ?_
        rintro e w5 ⟨rfl, hb5⟩
        go_wp2
        go_roundw
        case rel => exact ⟨k + 1, by omega, by go_num, Below.ext (Below.ext (Below.ext hbw hb3) hb4) hb5⟩
        case measure => simp [intOf]; omega
      · go_wp2_with fail
        refine (seal_long _ lk _ _ hBr (by omega)).mono ?_
        rintro e w3 ⟨rfl, rfl⟩
        go_wp2_with fail
        refine (refseal_long _ lk _ _ hBr (by omega)).mono ?_
        rintro e w4 ⟨rfl, rfl⟩
        go_wp2_with fail
        refine (samebytes_eq _ _ [] (fun _ => True) (fun _ => True) _ (Bytes.nil_ _ _) (Bytes.nil_ _ _)).mono ?_
        rintro e w5 ⟨rfl, hb5⟩
        go_wp2
        go_roundw
        case rel => exact ⟨k + 1, by omega, by go_num, Below.ext hbw hb5⟩
        case measure => simp [intOf]; omega
    · go_wp2
      go_ret
      exact ⟨rfl, Below.ext (Below.ext hb1 hb2) hbw⟩
end Go.Proofs.Ytmakcggmaphanaa.frameSeals
