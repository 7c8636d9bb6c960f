/-
  What the reading of an argument gives of memory: slices of records.
-/
import Derived.Test.YtgjjfjibfleonaaRec
import Derived.Deep.Slices
import Derived.ChangeSame
namespace Go.Proofs.Ytgjjfjibfleonaa
open Go.RowKit Go.Deep Go.ChangeShapes Go.WideShapes
set_option linter.unusedVariables false
section
variable {H : Type} {enc : TypeId × Value → H} {P : Program} {w : World} {spare : Nat → Bool} {held : Bool}
/-- a slice of records of k cells: each of its elements reads so -/
theorem recs_of_trod {α : Type} [Inhabited α] (encA : α → List Value) {k : Nat} (hk : ∀ x, (encA x).length = k) (hk0 : 0 < k) (R : α → DataW H → Prop) {t e : TypeId} {fuel : Nat} {A : Option Addr} {n c : Nat} {d : DataW H} {pl : List MemPlace} (ht : P.underlying t = some (.slice e)) (hc : P.cellsOf e = k)
    (h : DataW.trod enc P w 0 spare held fuel t [.slice A n c] = some (d, pl))
    (hel : ∀ (m : Nat) (cs : List Value) (d' : DataW H) (pl' : List MemPlace), cs.length = k → DataW.trod enc P w 0 spare held m e cs = some (d', pl') → ∃ x, cs = encA x ∧ R x d') :
    ∃ xs, Recs encA (· < w.heap.size) w (.slice A n c) xs ∧ ((d = .nil ∧ xs = []) ∨ ∃ elems rest, d = .slice elems rest ∧ elems.length = xs.length ∧ ∀ (i : Nat) x, xs[i]? = some x → ∃ d', elems[i]? = some d' ∧ R x d') := by
  rcases open_slice ht h with ⟨e1, e2⟩ | ⟨a, len, cap, m, f, D, Pl, e1, hb, hl, hm, hmm, e2, hx⟩
  · cases e1
    cases e2
    exact ⟨[], Recs.nil_ _ _, .inl ⟨rfl, rfl⟩⟩
  · cases e1
    cases e2
    have hlm : n ≤ m := by rw [hmm]; split <;> omega
    have key : ∀ i, i < n → ∃ x, (∀ (j : Nat) (u : Value), (encA x)[j]? = some u → w.cell? (a.add (i * k + j)) = some u) ∧ R x (D i) := by
      intro i hi
      obtain ⟨cs', h1, h2⟩ := hx i (by omega)
      rw [hc] at h1
      obtain ⟨_, hlen, hcell⟩ := World.cells?_some h1
      obtain ⟨x, rfl, hR⟩ := hel f cs' _ _ hlen h2
      refine ⟨x, fun j u hu => ?_, hR⟩
      have hj : j < k := by have := (List.getElem?_eq_some_iff.1 hu).1; rw [hk] at this; exact this
      have := hcell j hj
      rw [add_add] at this
      rw [this, hu]
    obtain ⟨X, hX⟩ := choose_lt (p := fun i x => (∀ (j : Nat) (u : Value), (encA x)[j]? = some u → w.cell? (a.add (i * k + j)) = some u) ∧ R x (D i)) key
    refine ⟨(List.range n).map X, ⟨some a, c, by simp, by simpa using hl, hm, ?_⟩, .inr ⟨_, _, rfl, by simp, fun i x hx' => ?_⟩⟩
    · intro hpos
      have hn : 0 < n := by
        rcases Nat.eq_zero_or_pos n with h0 | h0
        · subst h0; simp at hpos
        · exact h0
      have hx0 := hX 0 hn
      have hpos0 : 0 < (encA (X 0)).length := by rw [hk]; exact hk0
      have h00 := hx0.1 0 _ (List.getElem?_eq_getElem hpos0)
      rw [Nat.zero_mul, Nat.zero_add] at h00
      obtain ⟨b, off, rfl⟩ := plain_of_cell h00
      refine ⟨b, off, rfl, ?_, fun j u hu => ?_⟩
      · have := hx0.1 0 _ (List.getElem?_eq_getElem hpos0)
        rw [Addr.add_lit] at this
        exact block_lt_of_cell this
      · have hjl : j < n * k := by have := (List.getElem?_eq_some_iff.1 hu).1; rw [flat_length hk] at this; simpa using this
        have hi : j / k < n := Nat.div_lt_of_lt_mul (by rw [Nat.mul_comm]; exact hjl)
        have hr : j % k < k := Nat.mod_lt _ hk0
        have e := flat_at hk ((List.range n).map X) (j / k) (j % k) (X (j / k)) (by simp [hi]) hr
        rw [Nat.div_add_mod' j k] at e
        rw [e] at hu
        have := (hX (j / k) hi).1 (j % k) u hu
        rw [Addr.add_lit, Nat.div_add_mod' j k] at this
        exact this
    · rw [List.getElem?_map] at hx'
      obtain ⟨i', hi', rfl⟩ := Option.map_eq_some_iff.1 hx'
      obtain ⟨hi2, hi3⟩ := List.getElem?_eq_some_iff.1 hi'
      simp at hi2 hi3
      subst hi3
      exact ⟨D i, by simp [hi2], (hX i hi2).2⟩
end
end Go.Proofs.Ytgjjfjibfleonaa
