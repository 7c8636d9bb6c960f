/-
  The walk of the law NetworkLimits: it returns true and writes nothing that was there. Conditions: what the row says of its arguments.
-/
import Derived.Test.YtfnafdncbbjolaaChangeC
import Derived.WalkKit
import Derived.ProofKit
import Derived.OpenShut
import Derived.ShutString
import Derived.Below
namespace Go.Proofs.Ytfnafdncbbjolaa.networkLimits
open Go.ChangeShapes Go.WideShapes Go.ChangeAt Go.RowKit
open Go.ChangeMaps (open_string shut_string)
set_option linter.unusedVariables false      -- a walk need not use every 'w<i>' (that an integer argument fits its kind)
set_option linter.unusedVariables false
set_option maxRecDepth 100000

set_option maxHeartbeats 4000000 in
theorem walk (a0 : Int) (a1 : Int) (w0 : (Lit.int .u8 a0).wf = true) (w1 : (Lit.int .u8 a1).wf = true) (w : World) :
    Calls Try.prog 5 #[.int .u8 a0, .int .u8 a1] w fun e w' => e = .returned (.bool true) ∧ Below w.heap.size w w' := by
  have hn := wf_u8 w0
  have hm := wf_u8 w1
  obtain ⟨n, rfl⟩ := Int.eq_ofNat_of_zero_le hn.1
  obtain ⟨m, rfl⟩ := Int.eq_ofNat_of_zero_le hm.1
  have hn' : n < 256 := by omega
  have hm' : m < 256 := by omega
  clear w0 w1 hn hm
  go_enter Try.func5, Try.ntmps5
  go_wp2_with fail
  refine (awake_any _).mono ?_
  rintro e w1 ⟨rfl, hb1⟩
  have hmk1 : ∀ W : World, (Instr.makeSlice 26 (.int .i64 (256 - (n : Int) % 8)) (.int .i64 (256 - (n : Int) % 8))).run Try.prog W = .ok (.slice (some ⟨W.heap.size, 0, none⟩) (256 - n % 8) (256 - n % 8)) (W.alloc (.cells (madeCells (encM zM).toArray ((256 - n % 8) * 9)) 32)) := fun W => by
    have := mkMsgs (256 - n % 8) (by omega) W
    rw [show ((256 - n % 8 : Nat) : Int) = 256 - (n : Int) % 8 by omega] at this
    exact this
  have hmk2 : ∀ W : World, (Instr.makeSlice 26 (.int .i64 ((m : Int) % 12)) (.int .i64 ((m : Int) % 12))).run Try.prog W = .ok (.slice (some ⟨W.heap.size, 0, none⟩) (m % 12) (m % 12)) (W.alloc (.cells (madeCells (encM zM).toArray ((m % 12) * 9)) 32)) := fun W => mkMsgs (m % 12) (by omega) W
  go_wp2_with fail
  obtain ⟨W, hW⟩ : ∃ W, W = (w1.alloc (.cells (madeCells (encM zM).toArray ((256 - n % 8) * 9)) 32)) := ⟨_, rfl⟩
  obtain ⟨W2, hW2⟩ : ∃ W2, W2 = (W.alloc (.cells (madeCells (encM zM).toArray (m % 12 * 9)) 32)) := ⟨_, rfl⟩
  have hb2 : Below w1.heap.size w1 W := by rw [hW]; exact (Below.refl _ _).alloc (Nat.le_refl _) _
  have hb3 : Below W.heap.size W W2 := by rw [hW2]; exact (Below.refl _ _).alloc (Nat.le_refl _) _
  have hsz : W.heap.size = w1.heap.size + 1 := by rw [hW]; simp
  have r1 := made_recs (256 - n % 8) (by omega) w1
  have r2 := made_recs (m % 12) (by omega) W
  rw [← hW] at r1
  rw [← hW2, hsz] at r2
  have r1' := r1.ext hb3
  rw [← hW, ← hW2]
  clear hW hW2 hmk1 hmk2 hsz
  have hk0 : (List.replicate (256 - n % 8) zM)[0]? = some zM := by rw [List.getElem?_replicate]; simp; omega
  have Hk0 := Lib.hid hk0
  clear hk0
  by_cases h1 : n % 8 < m % 12
  · have d1 : decide ((n : Int) % 8 < (m : Int) % 12) = true := by simp; omega
    refine (add_no _ _ (256 - n % 8) (256 - n % 8) (m % 12) (m % 12) _ (by omega) (by omega) (by omega)).mono ?_
    rintro e w2 ⟨rfl, rfl⟩
    by_cases h2 : n % 8 = 0
    · have d2 : ((n : Int) % 8 == 0) = true := by simp; omega
      have hd := dup_many _ (256 - n % 8) (256 - n % 8) _ _ _ r1' (by omega) (by omega) 0 zM Hk0.out
      clear h2
      rw [show ((0 : Nat) : Int) = 0 from rfl] at hd
      go_wp2_with fail
      refine (hd).mono ?_
      rintro e w3 ⟨rfl, rfl⟩
      go_wp2
      go_ret
      exact ⟨rfl, Below.ext (Below.ext hb1 hb2) hb3⟩
    · have d2 : ((n : Int) % 8 == 0) = false := by simp; omega
      have hd := dup_ok _ (256 - n % 8) (256 - n % 8) _ _ _ r1' (by omega) 0 zM Hk0.out
      rw [show ((0 : Nat) : Int) = 0 from rfl] at hd
      go_wp2_with fail
      refine (hd).mono ?_
      rintro e w3 ⟨A', c', rfl, hown, hb4⟩
      go_wp2
      go_ret
      exact ⟨rfl, Below.ext (Below.ext (Below.ext hb1 hb2) hb3) hb4⟩
  · have d1 : decide ((n : Int) % 8 < (m : Int) % 12) = false := by simp; omega
    refine (add_ok _ _ (256 - n % 8) (256 - n % 8) (m % 12) (m % 12) _ _ _ _ _ r1' r2 (by omega)).mono ?_
    rintro e w2 ⟨A2, c2, rfl, hown2, hb4⟩
    by_cases h2 : n % 8 = 0
    · have d2 : ((n : Int) % 8 == 0) = true := by simp; omega
      have hd := dup_many _ (256 - n % 8) (256 - n % 8) _ _ _ (r1'.ext hb4) (by omega) (by omega) 0 zM Hk0.out
      clear h2
      rw [show ((0 : Nat) : Int) = 0 from rfl] at hd
      go_wp2_with fail
      refine (hd).mono ?_
      rintro e w3 ⟨rfl, rfl⟩
      go_wp2
      go_ret
      exact ⟨rfl, Below.ext (Below.ext (Below.ext hb1 hb2) hb3) hb4⟩
    · have d2 : ((n : Int) % 8 == 0) = false := by simp; omega
      have hd := dup_ok _ (256 - n % 8) (256 - n % 8) _ _ _ (r1'.ext hb4) (by omega) 0 zM Hk0.out
      rw [show ((0 : Nat) : Int) = 0 from rfl] at hd
      go_wp2_with fail
      refine (hd).mono ?_
      rintro e w3 ⟨A', c', rfl, hown, hb5⟩
      go_wp2
      go_ret
      exact ⟨rfl, Below.ext (Below.ext (Below.ext (Below.ext hb1 hb2) hb3) hb4) hb5⟩
end Go.Proofs.Ytfnafdncbbjolaa.networkLimits
