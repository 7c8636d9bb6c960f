/-
  What a round of WalKeeps keeps: the drawer, the disk's box, the list of all determinants.
-/
import Derived.Test.YtjcfnpmgklliiaaWalH
import Derived.Test.YtjcfnpmgklliiaaFloat
namespace Go.Proofs.Ytjcfnpmgklliiaa
open Go.RowKit
set_option linter.unusedVariables false
set_option linter.unusedSimpArgs false

structure KI (w : World) (B g bx base : Nat) (wr : World) (all : List Dt) (sf : Nat) (A' : Option Addr) (m c' : Nat) (A : Option Addr) (c : Nat) : Prop where
  cod : Cod B wr g
  box : wr.heap[bx]? = some (.cells #[.slice A 1 c] 45 (0, 0))
  own : OwnR encDt 9 wr base 38 (.slice A' m c') all
  dsk : Dsk (fun b => b ≠ g ∧ b ≠ bx ∧ (Value.slice A' m c').ownBlock ≠ some b) wr (.slice A 1 c) [⟨frL (all.take sf), frL (all.drop sf)⟩]
  sfl : sf ≤ m
  din : ∀ d ∈ all, DtIn d
  blw : Below w.heap.size w wr
  sz : base ≤ wr.heap.size
section
variable {w wr wr' : World} {B g bx base : Nat} {all : List Dt} {sf : Nat} {A' : Option Addr} {m c' : Nat} {A : Option Addr} {c : Nat}
theorem KI.ext (h : KI w B g bx base wr all sf A' m c' A c) (hb : Below wr.heap.size wr wr') : KI w B g bx base wr' all sf A' m c' A c :=
  ⟨h.cod.ext hb, (hb.block _ (Array.getElem?_eq_some_iff.1 h.box).1).trans h.box, h.own.ext hb, h.dsk.ext hb, h.sfl, h.din, Below.ext h.blw hb, Nat.le_trans h.sz hb.size⟩
theorem KI.draw (h : KI w B g bx base wr all sf A' m c' A c) (hC : Cod B wr' g) (hg : wr.grownBy wr' (some g)) (hgb : g < base) (hgx : g ≠ bx) (hwg : w.heap.size ≤ g) : KI w B g bx base wr' all sf A' m c' A c :=
  ⟨hC, (hg.block bx (Array.getElem?_eq_some_iff.1 h.box).1 (by simp; omega)).trans h.box, h.own.kept hg (by
      rcases Option.eq_none_or_eq_some (Value.slice A' m c').ownBlock with h0 | ⟨b, h0⟩
      · exact .inl h0
      · refine .inr (fun e => ?_)
        rw [h0] at e
        cases e
        have := (World.ownsRow.lt h.own _ h0).1
        omega), h.dsk.keep (fun b hb hs => hg.block b hb (by simpa using hs.1)), h.sfl, h.din, below_of_grown h.blw hg hwg, Nat.le_trans h.sz hg.size⟩
end
/-- a disk, while a row beside it is appended to -/
theorem dsk_app {P : Nat → Prop} {w w' : World} {v v' u : Value} {fs : List Fil} (h : Dsk (fun b => P b ∧ v.ownBlock ≠ some b) w u fs) (hg : w.grownBy w' v.ownBlock) (hat : v'.ownBlock = v.ownBlock ∨ v'.ownBlock = some w.heap.size) : Dsk (fun b => P b ∧ v'.ownBlock ≠ some b) w' u fs := by
  have h1 : Dsk (fun b => P b ∧ v.ownBlock ≠ some b ∧ b < w.heap.size) w u fs := h.mono (fun b hb hs => ⟨hs.1, hs.2, hb⟩)
  refine (h1.keep (fun b hb hs => hg.block b hb (fun e => hs.2.1 e.symm))).mono (fun b _ hs => ⟨hs.1, ?_⟩)
  rcases hat with e | e
  · rw [e]; exact hs.2.1
  · rw [e]
    intro e2
    cases e2
    have := hs.2.2
    omega
/-- what is found behind a crash that loses no sectors -/
theorem keeps_cut (all : List Dt) (sf : Nat) (h : ∀ d ∈ all, DtIn d) (hs : sf ≤ all.length) (keep : Int) : ∃ i, i ≤ all.length ∧ sf ≤ i ∧ WholeR (frL (all.take sf) ++ tornL (frL (all.drop sf)) keep []) (all.take i) := by
  have e : frL all = frL (all.take sf) ++ frL (all.drop sf) := by rw [← frL_append, List.take_append_drop]
  have hk := keepN_le (frL (all.drop sf)) keep
  obtain ⟨i, h1, h2, h3, h4⟩ := whole_cut all h ((frL (all.take sf)).length + keepN (frL (all.drop sf)) keep) (by rw [e, List.length_append]; omega)
  refine ⟨i, h1, h4 sf hs (by omega), ?_⟩
  rw [e, List.take_length_add_append] at h2
  unfold tornL
  rw [maskL_nil]
  exact h2
theorem tornL_le (p : List UInt8) (keep : Int) (lost : List Int) : (tornL p keep lost).length ≤ p.length := by
  unfold tornL
  rw [maskL_len, List.length_take]
  omega
theorem frL_le (l : List Dt) (h : ∀ d ∈ l, DtIn d) (m : Nat) (hm : l.length ≤ m) : (frL l).length ≤ 98 * m := by
  have := frL_len l h
  have : 98 * l.length ≤ 98 * m := Nat.mul_le_mul_left _ hm
  omega
theorem mem_take' {α : Type} {l : List α} {x : α} {k : Nat} (h : x ∈ l.take k) : x ∈ l := List.mem_of_mem_take h
theorem mem_drop' {α : Type} {l : List α} {x : α} {k : Nat} (h : x ∈ l.drop k) : x ∈ l := List.mem_of_mem_drop h
theorem files_app (all l6 : List Dt) (sf : Nat) (hs : sf ≤ all.length) : frL ((all ++ l6).take sf) = frL (all.take sf) ∧ frL ((all ++ l6).drop sf) = frL (all.drop sf) ++ frL l6 := by
  rw [List.take_append_of_le_length hs, List.drop_append_of_le_length hs, frL_append]
  exact ⟨rfl, rfl⟩
theorem files_all (all : List Dt) (n : Nat) (hs : all.length = n) : frL (all.take n) = frL all ∧ frL (all.drop n) = [] := by
  subst hs
  rw [List.take_length, List.drop_length]
  exact ⟨rfl, rfl⟩
theorem files_join (all : List Dt) (sf : Nat) : frL (all.take sf) ++ frL (all.drop sf) = frL all := by
  rw [← frL_append, List.take_append_drop]
theorem OwnR.ne_ {α : Type} {enc : α → List Value} {k : Nat} {w : World} {base : Nat} {e : TypeId} {v : Value} {l : List α} (h : OwnR enc k w base e v l) {g : Nat} (hg : g < base) : v.ownBlock = none ∨ v.ownBlock ≠ some g := by
  rcases Option.eq_none_or_eq_some v.ownBlock with h0 | ⟨b, h0⟩
  · exact .inl h0
  · refine .inr (fun e => ?_)
    rw [h0] at e
    cases e
    have := (World.ownsRow.lt h _ h0).1
    omega
end Go.Proofs.Ytjcfnpmgklliiaa
