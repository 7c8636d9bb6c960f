/-
  New of both disks in one contract.
-/
import Derived.Test.YtmbbngdhdhgliaaStepD
namespace Go.Proofs.Ytmbbngdhdhgliaa
open Go.RowKit
set_option maxRecDepth 100000
set_option linter.unusedVariables false

set_option maxHeartbeats 400000 in
theorem codnew_at (v : Value) (l : List UInt8) (B : Nat) (w : World) (hle : B ≤ w.heap.size) (most : Nat) (hm : most ≤ 65536) (hv : Bytes (· < B) w v l) :
    Calls Try.prog 16 #[v, .int .i64 (most : Int)] w fun e w' => ∃ g, e = .returned (.pointer (some ⟨g, 0, none⟩)) ∧ Cod B w' g ∧ w.heap.size ≤ g ∧ Below w.heap.size w w' := by
  have hB := hv
  obtain ⟨A, c, rfl, hc1, hc2, hcs⟩ := hv
  unfold maxLen at hc2
  have hba : ∀ o, Below w.heap.size w (w.alloc o) := fun o => (Below.refl _ _).alloc (Nat.le_refl _) o
  by_cases hlen : most < l.length
  · have d1 : decide (most < l.length) = true := by simpa using hlen
    go_enter Try.func16, Try.ntmps16
    go_wp2
    go_ret
    refine ⟨w.heap.size, rfl, ⟨hle, A, c, l.take most, 0, ?_, ?_, by omega, by simp; omega⟩, Nat.le_refl _, hba _⟩
    · rw [List.length_take, Nat.min_eq_left (by omega)]
      exact heap_alloc_new _ _
    · rw [List.length_take, Nat.min_eq_left (by omega)]
      exact (hB.take_ (by omega)).ext (hba _)
  · have d1 : decide (most < l.length) = false := by simpa using hlen
    go_enter Try.func16, Try.ntmps16
    go_wp2
    go_ret
    exact ⟨w.heap.size, rfl, ⟨hle, A, c, l, 0, heap_alloc_new _ _, hB.ext (hba _), by omega, by omega⟩, Nat.le_refl _, hba _⟩


def NewR (k : Int) (n : Nat) (er : Int) : Prop := (k = (n : Int) ∧ n ≤ 16 ∧ er = 0) ∨ ((k < 0 ∨ 16 < k) ∧ n = 0 ∧ er = 3)
theorem NewR.ex (k : Int) : ∃ n er, NewR k n er := by
  by_cases hk : k < 0 ∨ 16 < k
  · exact ⟨0, 3, .inr ⟨hk, rfl, rfl⟩⟩
  · exact ⟨k.toNat, 0, .inl ⟨by omega, by omega, rfl⟩⟩
theorem NewR.spec {k : Int} {n : Nat} {er : Int} (h : NewR k n er) : n ≤ 16 ∧ (er = 0 ∨ er = 3) := by
  rcases h with ⟨_, h, rfl⟩ | ⟨_, rfl, rfl⟩
  · exact ⟨h, .inl rfl⟩
  · exact ⟨by omega, .inr rfl⟩
theorem new_go (k : Int) (n : Nat) (er : Int) (h : NewR k n er) (w : World) :
    Calls Try.prog 13 #[.int .i64 k] w fun e w' => ∃ A c, e = .returned (.tuple #[.agg #[.slice A n c], .int .i64 er]) ∧ Dsk (fun b => w.heap.size ≤ b) w' (.slice A n c) (List.replicate n zFil) ∧ Below w.heap.size w w' := by
  rcases h with ⟨rfl, h, rfl⟩ | ⟨hk, rfl, rfl⟩
  · refine (new_ok n h w).mono ?_
    rintro e w' ⟨A, c, rfl, hD, hb⟩
    exact ⟨A, c, rfl, hD.mono (fun b _ h => Nat.le_of_lt h), hb⟩
  · refine (new_err k hk w).mono ?_
    rintro e w' ⟨rfl, hb⟩
    exact ⟨none, 0, rfl, Dsk.nil_ _ _, hb⟩
theorem refnew_go (k : Int) (n : Nat) (er : Int) (h : NewR k n er) (w : World) :
    Calls Try.prog 21 #[.int .i64 k] w fun e w' => ∃ A c, e = .returned (.tuple #[.agg #[.slice A n c], .int .i64 er]) ∧ Dsk (fun b => w.heap.size ≤ b) w' (.slice A n c) (List.replicate n zFil) ∧ Below w.heap.size w w' := by
  rcases h with ⟨rfl, h, rfl⟩ | ⟨hk, rfl, rfl⟩
  · refine (refnew_ok n h w).mono ?_
    rintro e w' ⟨A, c, rfl, hD, hb⟩
    exact ⟨A, c, rfl, hD.mono (fun b _ h => Nat.le_of_lt h), hb⟩
  · refine (refnew_err k hk w).mono ?_
    rintro e w' ⟨rfl, hb⟩
    exact ⟨none, 0, rfl, Dsk.nil_ _ _, hb⟩
end Go.Proofs.Ytmbbngdhdhgliaa
