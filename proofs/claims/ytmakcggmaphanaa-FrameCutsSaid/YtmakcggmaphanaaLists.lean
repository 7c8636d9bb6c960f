/-
  Slices of slices of bytes: read, and made by the call itself.
-/
import Derived.Test.YtmakcggmaphanaaCodes
namespace Go.Proofs.Ytmakcggmaphanaa
open Go.RowKit
set_option linter.unusedVariables false

/-- a slice of slices of bytes that reads as a list of lists -/
def Lists (S : Nat → Prop) (w : World) (v : Value) (ll : List (List UInt8)) : Prop :=
  ∃ A c vs, v = .slice A ll.length c ∧ ll.length ≤ c ∧ c ≤ maxLen ∧ vs.length = ll.length ∧ Cs S w A vs ∧ ∀ (i : Nat) (x : Value) (li : List UInt8), vs[i]? = some x → ll[i]? = some li → Bytes S w x li
theorem Lists.keep {S : Nat → Prop} {w w' : World} {v : Value} {ll : List (List UInt8)} (h : Lists S w v ll) (hk : Keep S w w') : Lists S w' v ll := by
  obtain ⟨A, c, vs, rfl, h1, h2, h3, h4, h5⟩ := h
  exact ⟨A, c, vs, rfl, h1, h2, h3, h4.keep hk, fun i x li hx hl => (h5 i x li hx hl).keep hk⟩
theorem Lists.ext {S : Nat → Prop} {w w' : World} {v : Value} {ll : List (List UInt8)} (h : Lists S w v ll) (hk : Below w.heap.size w w') : Lists S w' v ll := h.keep (Keep.of_below hk)
theorem Lists.mono {S S' : Nat → Prop} {w : World} {v : Value} {ll : List (List UInt8)} (h : Lists S w v ll) (hs : ∀ b, b < w.heap.size → S b → S' b) : Lists S' w v ll := by
  obtain ⟨A, c, vs, rfl, h1, h2, h3, h4, h5⟩ := h
  exact ⟨A, c, vs, rfl, h1, h2, h3, h4.mono hs, fun i x li hx hl => (h5 i x li hx hl).mono hs⟩
theorem Lists.nil_ (S : Nat → Prop) (w : World) : Lists S w (.slice none 0 0) [] := ⟨none, 0, [], rfl, by simp, by simp [maxLen], rfl, Cs.nil_ _ _ _, fun i x li h => by simp at h⟩
theorem Lists.drew {S : Nat → Prop} {w : World} {v : Value} {ll : List (List UInt8)} (h : Lists S w v ll) : Lists S w.drew v ll := h
/-- an element -/
theorem Lists.at_ {S : Nat → Prop} {w : World} {A : Option Addr} {n c k : Nat} {ll : List (List UInt8)} (h : Lists S w (.slice A n c) ll) (hk : k < n) :
    ∃ b off x li, A = some ⟨b, off, none⟩ ∧ S b ∧ b < w.heap.size ∧ ll[k]? = some li ∧ w.cell? ⟨b, off + k, none⟩ = some x ∧ Bytes S w x li := by
  obtain ⟨A', c', vs, e, h1, h2, h3, h4, h5⟩ := h
  cases e
  have hv : vs[k]? = some (vs[k]'(by omega)) := List.getElem?_eq_getElem (by omega)
  have hl : ll[k]? = some ll[k] := List.getElem?_eq_getElem hk
  obtain ⟨b, off, rfl, hs, hb, hc⟩ := h4.at_ hv
  exact ⟨b, off, _, ll[k], rfl, hs, hb, hl, hc, h5 k _ _ hv hl⟩
theorem Lists.len {S : Nat → Prop} {w : World} {A : Option Addr} {n c : Nat} {ll : List (List UInt8)} (h : Lists S w (.slice A n c) ll) : ll.length = n ∧ n ≤ c ∧ c ≤ 9223372036854775807 := by
  obtain ⟨A', c', vs, e, h1, h2, h3, h4, h5⟩ := h
  cases e
  unfold maxLen at h2
  exact ⟨rfl, h1, h2⟩

/-- a row of slices that the call itself made, and their bytes in rows made by it as well -/
def OwnLs (w : World) (base : Nat) (e : TypeId) (v : Value) (ll : List (List UInt8)) : Prop :=
  ∃ vs : List Value, w.ownsRow base e 1 v ll.length vs ∧ ∀ (i : Nat) (x : Value) (li : List UInt8), vs[i]? = some x → ll[i]? = some li → Bytes (fun b => base ≤ b ∧ v.ownBlock ≠ some b) w x li
theorem OwnLs.nil_ (w : World) (base : Nat) (e : TypeId) : OwnLs w base e (.slice none 0 0) [] := ⟨[], World.ownsRow_nil _ _ _ _, fun i x li h => by simp at h⟩
theorem OwnLs.lists {w : World} {base : Nat} {e : TypeId} {v : Value} {ll : List (List UInt8)} (h : OwnLs w base e v ll) : Lists (fun b => base ≤ b) w v ll := by
  obtain ⟨vs, hown, hin⟩ := h
  have hlen := hown.1
  have hin' : ∀ (i : Nat) (x : Value) (li : List UInt8), vs[i]? = some x → ll[i]? = some li → Bytes (fun b => base ≤ b) w x li := fun i x li hx hl => (hin i x li hx hl).mono (fun b _ hs => hs.1)
  rcases hown.2 with ⟨rfl, hn⟩ | ⟨g, cap, cur, rfl, hb, hh, h1, h2, h3, h4⟩
  · rw [List.eq_nil_of_length_eq_zero hn]
    exact Lists.nil_ _ _
  · refine ⟨_, cap, vs, rfl, h1, h2, by simpa using hlen, fun _ => ⟨g, 0, rfl, hb, fun j u hu => ?_⟩, hin'⟩
    rw [cell_of_row _ _ _ _ _ _ hh]
    rw [← h4, List.getElem?_take] at hu
    split at hu
    · simpa using hu
    · cases hu
/-- what a change elsewhere leaves -/
theorem OwnLs.kept {w w' : World} {base : Nat} {e : TypeId} {v : Value} {ll : List (List UInt8)} (h : OwnLs w base e v ll) (hk : ∀ b, b < w.heap.size → base ≤ b → w'.heap[b]? = w.heap[b]?) (hs : w.heap.size ≤ w'.heap.size) : OwnLs w' base e v ll := by
  obtain ⟨vs, hown, hin⟩ := h
  refine ⟨vs, ⟨hown.1, ?_⟩, fun i x li hx hl => (hin i x li hx hl).keep (fun b hb hsb => hk b hb hsb.1)⟩
  rcases hown.2 with hn | ⟨g, cap, cur, rfl, hb, hh, rest⟩
  · exact .inl hn
  · exact .inr ⟨g, cap, cur, rfl, hb, (hk g (Array.getElem?_eq_some_iff.1 hh).1 hb).trans hh, rest⟩
/-- one element more: it was made behind w, and boxed, and appended -/
theorem OwnLs.push {w w2 w5 : World} {base : Nat} {e : TypeId} {v v5 x : Value} {ll : List (List UInt8)} {l : List UInt8} {o : Obj} {vs : List Value}
    (hin : ∀ (i : Nat) (x : Value) (li : List UInt8), vs[i]? = some x → ll[i]? = some li → Bytes (fun b => base ≤ b ∧ v.ownBlock ≠ some b) w x li) (hlen : vs.length = ll.length)
    (hvlt : ∀ m, v.ownBlock = some m → m < w.heap.size) (hbw : base ≤ w.heap.size)
    (hk2 : ∀ b, b < w.heap.size → base ≤ b → w2.heap[b]? = w.heap[b]?) (hs2 : w.heap.size ≤ w2.heap.size) (hx : Bytes (fun b => w.heap.size ≤ b) w2 x l)
    (hown5 : w5.ownsRow base e 1 v5 (ll.length + 1) (vs ++ [x])) (hgr5 : (w2.alloc o).grownBy w5 v.ownBlock) (hat5 : v5.ownBlock = v.ownBlock ∨ v5.ownBlock = some (w2.alloc o).heap.size) : OwnLs w5 base e v5 (ll ++ [l]) := by
  have ha : Below w2.heap.size w2 (w2.alloc o) := (Below.refl _ _).alloc (Nat.le_refl _) _
  have hsa : (w2.alloc o).heap.size = w2.heap.size + 1 := by simp
  refine ⟨vs ++ [x], by rw [List.length_append]; exact hown5, fun i y li hy hl => ?_⟩
  have keep5 : ∀ b, b < w2.heap.size → v.ownBlock ≠ some b → w5.heap[b]? = w2.heap[b]? := fun b hb hne =>
    (hgr5.block b (by omega) (fun e => hne e.symm)).trans (ha.block b hb)
  have ne5 : ∀ b, b < w2.heap.size → v.ownBlock ≠ some b → v5.ownBlock ≠ some b := fun b hb hne => by
    rcases hat5 with h | h
    · rw [h]; exact hne
    · rw [h, hsa]
      intro e
      injection e with e
      omega
  by_cases hi : i < vs.length
  · rw [List.getElem?_append_left hi] at hy
    rw [List.getElem?_append_left (by omega)] at hl
    have h1 := hin i y li hy hl
    have h2 : Bytes (fun b => base ≤ b ∧ v.ownBlock ≠ some b) w2 y li := h1.keep (fun b hb hs => hk2 b hb hs.1)
    have h3 : Bytes (fun b => (base ≤ b ∧ v.ownBlock ≠ some b) ∧ b < w2.heap.size) w2 y li := h2.mono (fun b hb hs => ⟨hs, hb⟩)
    exact (h3.keep (w' := w5) (fun b hb hs => keep5 b hb hs.1.2)).mono (fun b _ hs => ⟨hs.1.1, ne5 b hs.2 hs.1.2⟩)
  · have hi' : i = vs.length := by
      have := (List.getElem?_eq_some_iff.1 hy).1
      simp at this
      omega
    subst hi'
    rw [List.getElem?_append_right (Nat.le_refl _)] at hy
    rw [List.getElem?_append_right (by omega)] at hl
    simp [hlen] at hy hl
    subst hy hl
    have hne : ∀ b, w.heap.size ≤ b → v.ownBlock ≠ some b := fun b hb e => by have := hvlt b e; omega
    have h3 : Bytes (fun b => w.heap.size ≤ b ∧ b < w2.heap.size) w2 x l := hx.mono (fun b hb hs => ⟨hs, hb⟩)
    exact (h3.keep (w' := w5) (fun b hb hs => keep5 b hb (hne b hs.1))).mono (fun b _ hs => ⟨Nat.le_trans hbw hs.1, ne5 b hs.2 (hne b hs.1)⟩)
end Go.Proofs.Ytmakcggmaphanaa
