/-
  slices.Clone at one element type (printed by clone.py).
-/
import Derived.Test.YtmbbngdhdhgliaaFile
namespace Go.Proofs.Ytmbbngdhdhgliaa
open Go.RowKit
set_option maxRecDepth 100000
set_option linter.unusedVariables false

set_option maxHeartbeats 1000000 in
theorem cloneF (A : Option Addr) (n c : Nat) (l : List FV) (S : Nat → Prop) (w : World) (r : Recs encF S w (.slice A n c) l) (hb : n * 48 ≤ 140737488355328) :
    Calls Try.prog 37 #[.slice A n c] w fun e w' => ∃ A' c', e = .returned (.slice A' n c') ∧ OwnR encF 2 w' w.heap.size 48 (.slice A' n c') l ∧ Below w.heap.size w w' := by
  have hn : n ≤ 140737488355328 := by omega
  obtain ⟨hl1, hl2, hl3⟩ := r.len
  have Hl1 := Lib.hid hl1
  clear hl1
  have qn : ∀ (w : World) (a : Option Addr) (n c n' c' : Nat), (binOp .eql 22 (.slice a n c) (.slice none n' c')).run Try.prog w = .ok (.bool a.isNone) w := fun w a n c n' c' => Lib.run_eql_slice_nil w _ _ a n c n' c' Try.underlying22
  cases A with
  | none =>
    have hl0 : l = [] := by
      obtain ⟨A', c', e, _, _, h3⟩ := r
      cases e
      cases l with
      | nil => rfl
      | cons x l =>
        obtain ⟨_, _, q, _⟩ := h3 (by rw [List.flatMap_cons, List.length_append, encF_len]; omega)
        cases q
    subst hl0
    obtain rfl : n = 0 := by have := Hl1.out; simpa using this.symm
    go_enter Try.func37, Try.ntmps37
    go_wp2
    go_ret
    exact ⟨none, 0, rfl, OwnR.nil_ _ _ _, Below.refl _ _⟩
  | some ad =>
    have ha : Below w.heap.size w (w.alloc (.cells #[] 48)) := (Below.refl _ _).alloc (Nat.le_refl _) _
    have how := OwnR.empty_ (enc := encF) (k := 2) w w.heap.size 48 (Nat.le_refl _)
    go_enter Try.func37, Try.ntmps37
    go_wp2_with (refine wpList_appR (o := ⟨some 7, _, _, _, _, _⟩) encF_len encF_one zeroF 48 _ _ 22 48 w.heap.size [] l (some ad) n c (.slice (some ⟨w.heap.size, 0, none⟩) 0 0) n rfl rfl Try.underlying22 infoF rfl (by omega) rfl rfl how (r.ext ha) (by simp) (by simp; omega) (by simp; omega) (by simp) ?_; intro A9 c9 w9 hown9 hgr9 hat9 hc91 hc92)
    have hb9 : Below w.heap.size w w9 := how.grow hgr9 ha (Nat.le_refl _) (by simp)
    go_wp2
    go_ret
    exact ⟨_, _, rfl, by simpa using hown9, hb9⟩
end Go.Proofs.Ytmbbngdhdhgliaa
