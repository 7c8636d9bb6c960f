/-
  What a scan of frames answers, in plain terms.
-/
import Derived.Test.YtmakcggmaphanaaFrameFn
namespace Go.Proofs.Ytmakcggmaphanaa

/-- the frames from an offset on: where each begins and how long its body is; and the offset behind the last one -/
inductive Scans (b : List UInt8) : Nat → List (Nat × Nat) → Nat → Prop
  | stop {k : Nat} : (nextL b k).2.2 ≠ 0 → Scans b k [] k
  | go {k n : Nat} {ps : List (Nat × Nat)} {e : Nat} : nextL b k = ((b.drop (k + 8)).take n, k + 8 + n, 0) → n = num ((b.drop k).take 4) → k + 8 + n ≤ b.length → Scans b (k + 8 + n) ps e → Scans b k ((k, n) :: ps) e

theorem nextL_cases (b : List UInt8) (k : Nat) : (nextL b k).2.2 ≠ 0 ∨ ∃ n, n = num ((b.drop k).take 4) ∧ k + 8 + n ≤ b.length ∧ nextL b k = ((b.drop (k + 8)).take n, k + 8 + n, 0) := by
  by_cases h1 : b.length < k
  · left; rw [nextL_range (.inr (by omega))]; decide
  by_cases h2 : k = b.length
  · left; rw [nextL_end h2]; decide
  by_cases h3 : b.length - k < 8
  · left; rw [nextL_short1 (by omega) h3]; decide
  by_cases h4 : 4096 < num ((b.drop k).take 4)
  · left; rw [nextL_long (by omega) h4]; decide
  by_cases h5 : b.length - k - 8 < num ((b.drop k).take 4)
  · left; rw [nextL_short2 (by omega) (by omega) h5]; decide
  by_cases h6 : num ((b.drop (k + 4)).take 4) = sumL ((b.drop (k + 8)).take (num ((b.drop k).take 4)))
  · right; exact ⟨_, rfl, by omega, nextL_ok (by omega) (by omega) (by omega) h6⟩
  · left; rw [nextL_sum (by omega) (by omega) (by omega) h6]; decide
theorem scans_ex (b : List UInt8) : ∀ (m k : Nat), b.length - k ≤ m → ∃ ps e, Scans b k ps e
  | m, k, h => by
    rcases nextL_cases b k with h1 | ⟨n, hn, hl, he⟩
    · exact ⟨[], k, .stop h1⟩
    · match m with
      | 0 => omega
      | m + 1 =>
        obtain ⟨ps, e, hs⟩ := scans_ex b m (k + 8 + n) (by omega)
        exact ⟨_, e, .go he hn hl hs⟩
theorem Scans.len {b : List UInt8} {k : Nat} {ps : List (Nat × Nat)} {e : Nat} (h : Scans b k ps e) (hk : k ≤ b.length) : k + 8 * ps.length ≤ e ∧ e ≤ b.length := by
  induction h with
  | stop _ => exact ⟨by simp, hk⟩
  | go _ _ hl _ ih => have := ih hl; simp; omega
theorem Scans.unique {b : List UInt8} {k : Nat} {ps qs : List (Nat × Nat)} {e f : Nat} (h : Scans b k ps e) (h' : Scans b k qs f) : ps = qs ∧ e = f := by
  induction h generalizing qs f with
  | stop h1 =>
    cases h' with
    | stop _ => exact ⟨rfl, rfl⟩
    | go he _ _ _ => rw [he] at h1; exact absurd rfl h1
  | go he hn _ _ ih =>
    cases h' with
    | stop h1 => rw [he] at h1; exact absurd rfl h1
    | go he' hn' _ hs' =>
      subst hn
      subst hn'
      obtain ⟨h1, h2⟩ := ih hs'
      exact ⟨by rw [h1], h2⟩
/-- the offset behind the last one -/
def endOf (ps : List (Nat × Nat)) : Nat := match ps.getLast? with | none => 0 | some p => p.1 + 8 + p.2
theorem endOf_nil : endOf [] = 0 := rfl
theorem endOf_snoc (ps : List (Nat × Nat)) (p : Nat × Nat) : endOf (ps ++ [p]) = p.1 + 8 + p.2 := by simp [endOf]
theorem Scans.end_ {b : List UInt8} {k : Nat} {ps : List (Nat × Nat)} {e : Nat} (h : Scans b k ps e) : ps = [] ∧ e = k ∨ e = endOf ps := by
  induction h with
  | stop _ => exact .inl ⟨rfl, rfl⟩
  | @go k n ps e _ _ _ _ ih =>
    right
    rcases ih with ⟨rfl, rfl⟩ | ih
    · rfl
    · by_cases hp : ps = []
      · subst hp
        rename_i hs
        cases hs
        rfl
      · rw [ih, endOf, endOf, List.getLast?_cons_of_ne_nil hp]
theorem Scans.end0 {b : List UInt8} {ps : List (Nat × Nat)} {e : Nat} (h : Scans b 0 ps e) : e = endOf ps := by
  rcases h.end_ with ⟨rfl, rfl⟩ | h
  · rfl
  · exact h
/-- the bodies -/
def bodyL (b : List UInt8) (p : Nat × Nat) : List UInt8 := (b.drop (p.1 + 8)).take p.2
theorem Scans.body_len {b : List UInt8} {k : Nat} {ps : List (Nat × Nat)} {e : Nat} (h : Scans b k ps e) : ∀ p ∈ ps, p.1 + 8 + p.2 ≤ b.length := by
  induction h with
  | stop _ => intro p hp; cases hp
  | go _ _ hl _ ih =>
    intro p hp
    rcases List.mem_cons.1 hp with rfl | hp
    · exact hl
    · exact ih p hp
theorem Scans.inv {b : List UInt8} {k : Nat} {ps : List (Nat × Nat)} {e : Nat} (h : Scans b k ps e) : (ps = [] ∧ e = k ∧ (nextL b k).2.2 ≠ 0) ∨
    ∃ n ps', ps = (k, n) :: ps' ∧ nextL b k = ((b.drop (k + 8)).take n, k + 8 + n, 0) ∧ n = num ((b.drop k).take 4) ∧ k + 8 + n ≤ b.length ∧ Scans b (k + 8 + n) ps' e := by
  cases h with
  | stop h => exact .inl ⟨rfl, rfl, h⟩
  | go h1 h2 h3 h4 => exact .inr ⟨_, _, rfl, h1, h2, h3, h4⟩
end Go.Proofs.Ytmakcggmaphanaa
