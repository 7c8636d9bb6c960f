/-
  Words for the laws of the log: a disk of one file that is written out, a tear that is written out; what a crash leaves of a file without pending bytes.
-/
import Derived.Test.YtjcfnpmgklliiaaWalF
namespace Go.Proofs.Ytjcfnpmgklliiaa
open Go.RowKit
set_option linter.unusedVariables false
set_option linter.unusedSimpArgs false

theorem lit_disk1 (w : World) (A : Option Addr) (n c : Nat) (l : List UInt8) (S : Nat → Prop) (h : By S w (.slice A n c) l) :
    Dsk (fun b => S b ∨ w.heap.size ≤ b) (w.alloc (.cells #[.slice A n c, .slice none 0 0] 42)) (.slice (some ⟨w.heap.size, 0, none⟩) 1 1) [⟨l, []⟩] := by
  have hb : Below w.heap.size w (w.alloc (.cells #[.slice A n c, .slice none 0 0] 42)) := (Below.refl _ _).alloc (Nat.le_refl _) _
  refine ⟨[⟨A, n, c, none, 0, 0⟩], ⟨_, 1, rfl, by simp, by simp [maxLen], Cs.lit _ _ _ _ _ (.inr (Nat.le_refl _)) rfl⟩, rfl, ?_⟩
  intro i x f hx hf
  cases i with
  | zero =>
    simp at hx hf
    subst hx hf
    exact ⟨(h.ext hb).mono (fun _ _ h => .inl h), Recs.nil_ _ _⟩
  | succ i => simp at hx
theorem lit_tear1 (w : World) (keep : Int) (A : Option Addr) (n c : Nat) (lost : List Int) (S : Nat → Prop) (h : Recs encZ S w (.slice A n c) lost) :
    Trs (fun _ => True) (w.alloc (.cells #[.int .i64 keep, .slice A n c] 57)) (.slice (some ⟨w.heap.size, 0, none⟩) 1 1) [⟨keep, lost⟩] := by
  have hb : Below w.heap.size w (w.alloc (.cells #[.int .i64 keep, .slice A n c] 57)) := (Below.refl _ _).alloc (Nat.le_refl _) _
  refine ⟨[⟨keep, A, n, c⟩], ⟨_, 1, rfl, by simp, by simp [maxLen], Cs.lit _ _ _ _ _ trivial rfl⟩, rfl, ?_⟩
  intro i x t hx ht
  cases i with
  | zero =>
    simp at hx ht
    subst hx ht
    exact ⟨rfl, (h.ext hb).mono (fun _ _ _ => trivial)⟩
  | succ i => simp at hx
theorem crash_synced (l : List UInt8) (ts : List Tear) : crashL [⟨l, []⟩] ts = [⟨l, []⟩] := by
  cases ts with
  | nil => simp [crashL, crashF, tornL, maskL, keepN]
  | cons t ts => simp [crashL, crashF, tornL, maskL, keepN]
theorem crash_file (s p : List UInt8) (keep : Int) (lost : List Int) : crashL [⟨s, p⟩] [⟨keep, lost⟩] = [⟨s ++ tornL p keep lost, []⟩] := by
  simp [crashL, crashF, tearOf]
end Go.Proofs.Ytjcfnpmgklliiaa
