/-
  Joined from texts of ours: XOpen, XOpenC.
-/
import Derived.Test.YtjcfnpmgklliiaaKit
import Derived.Deep.Slices
import Derived.ChangeSame
import Derived.Test.YtjcfnpmgklliiaaRows
import Derived.Test.YtjcfnpmgklliiaaCodecB
import Derived.Lib.SmallJoins
namespace Go.Proofs.Ytjcfnpmgklliiaa
open Go.RowKit Go.Deep Go.ChangeShapes Go.WideShapes
set_option linter.unusedVariables false
section
variable {H : Type} {enc : TypeId × Value → H} {P : Program} {w : World} {spare : Nat → Bool} {held : Bool}
/-- a slice of records of k cells: each of its elements reads so -/
theorem recs_of_trod {α : Type} [Inhabited α] (encA : α → List Value) {k : Nat} (hk : ∀ x, (encA x).length = k) (hk0 : 0 < k) (R : α → DataW H → Prop) {t e : TypeId} {fuel : Nat} {A : Option Addr} {n c : Nat} {d : DataW H} {pl : List MemPlace} (ht : P.underlying t = some (.slice e)) (hc : P.cellsOf e = k)
    (h : DataW.trod enc P w 0 spare held fuel t [.slice A n c] = some (d, pl))
    (hel : ∀ (m : Nat) (cs : List Value) (d' : DataW H) (pl' : List MemPlace), cs.length = k → DataW.trod enc P w 0 spare held m e cs = some (d', pl') → ∃ x, cs = encA x ∧ R x d') :
    ∃ xs, Recs encA (· < w.heap.size) w (.slice A n c) xs ∧ ((d = .nil ∧ xs = []) ∨ ∃ elems rest, d = .slice elems rest ∧ elems.length = xs.length ∧ ∀ (i : Nat) x, xs[i]? = some x → ∃ d', elems[i]? = some d' ∧ R x d') := by
  rcases open_slice ht h with ⟨e1, e2⟩ | ⟨a, len, cap, m, f, D, Pl, e1, hb, hl, hm, hmm, e2, hx⟩
  · cases e1
    cases e2
    exact ⟨[], Recs.nil_ _ _, .inl ⟨rfl, rfl⟩⟩
  · cases e1
    cases e2
    have hlm : n ≤ m := by rw [hmm]; split <;> omega
    have key : ∀ i, i < n → ∃ x, (∀ (j : Nat) (u : Value), (encA x)[j]? = some u → w.cell? (a.add (i * k + j)) = some u) ∧ R x (D i) := by
      intro i hi
      obtain ⟨cs', h1, h2⟩ := hx i (by omega)
      rw [hc] at h1
      obtain ⟨_, hlen, hcell⟩ := World.cells?_some h1
      obtain ⟨x, rfl, hR⟩ := hel f cs' _ _ hlen h2
      refine ⟨x, fun j u hu => ?_, hR⟩
      have hj : j < k := by have := (List.getElem?_eq_some_iff.1 hu).1; rw [hk] at this; exact this
      have := hcell j hj
      rw [add_add] at this
      rw [this, hu]
    obtain ⟨X, hX⟩ := choose_lt (p := fun i x => (∀ (j : Nat) (u : Value), (encA x)[j]? = some u → w.cell? (a.add (i * k + j)) = some u) ∧ R x (D i)) key
    refine ⟨(List.range n).map X, ⟨some a, c, by simp, by simpa using hl, hm, ?_⟩, .inr ⟨_, _, rfl, by simp, fun i x hx' => ?_⟩⟩
    · intro hpos
      have hn : 0 < n := by
        rcases Nat.eq_zero_or_pos n with h0 | h0
        · subst h0; simp at hpos
        · exact h0
      have hx0 := hX 0 hn
      have hpos0 : 0 < (encA (X 0)).length := by rw [hk]; exact hk0
      have h00 := hx0.1 0 _ (List.getElem?_eq_getElem hpos0)
      rw [Nat.zero_mul, Nat.zero_add] at h00
      obtain ⟨b, off, rfl⟩ := plain_of_cell h00
      refine ⟨b, off, rfl, ?_, fun j u hu => ?_⟩
      · have := hx0.1 0 _ (List.getElem?_eq_getElem hpos0)
        rw [Addr.add_lit] at this
        exact block_lt_of_cell this
      · have hjl : j < n * k := by have := (List.getElem?_eq_some_iff.1 hu).1; rw [flat_length hk] at this; simpa using this
        have hi : j / k < n := Nat.div_lt_of_lt_mul (by rw [Nat.mul_comm]; exact hjl)
        have hr : j % k < k := Nat.mod_lt _ hk0
        have e := flat_at hk ((List.range n).map X) (j / k) (j % k) (X (j / k)) (by simp [hi]) hr
        rw [Nat.div_add_mod' j k] at e
        rw [e] at hu
        have := (hX (j / k) hi).1 (j % k) u hu
        rw [Addr.add_lit, Nat.div_add_mod' j k] at this
        exact this
    · rw [List.getElem?_map] at hx'
      obtain ⟨i', hi', rfl⟩ := Option.map_eq_some_iff.1 hx'
      obtain ⟨hi2, hi3⟩ := List.getElem?_eq_some_iff.1 hi'
      simp at hi2 hi3
      subst hi3
      exact ⟨D i, by simp [hi2], (hX i hi2).2⟩
end
end Go.Proofs.Ytjcfnpmgklliiaa

namespace Go.Proofs.Ytjcfnpmgklliiaa
open Go.RowKit Go.Deep Go.ChangeShapes Go.WideShapes Go.Joins
set_option maxRecDepth 100000
set_option linter.unusedVariables false

theorem bulk_one {H : Type} (d : DataW H) : 1 ≤ Rows.uptoBulk d := by
  cases d with
  | lit l => cases l <;> simp [Rows.uptoBulk]
  | nil => simp [Rows.uptoBulk]
  | ptr d => simp [Rows.uptoBulk]
  | slice elems spare => simp [Rows.uptoBulk]
  | agg parts => simp [Rows.uptoBulk]
  | iface n d => simp [Rows.uptoBulk]
  | map entries => simp [Rows.uptoBulk]
  | held h => simp [Rows.uptoBulk]
theorem bulk_get {H : Type} : ∀ (l : List (DataW H)) (i : Nat) (d : DataW H), l[i]? = some d → Rows.uptoBulk d ≤ Rows.uptoBulkAll l
  | [], i, d, h => by simp at h
  | x :: l, 0, d, h => by cases h; simp only [Rows.uptoBulkAll]; omega
  | x :: l, i + 1, d, h => by
    have := bulk_get l i d (by simpa using h)
    simp only [Rows.uptoBulkAll]
    omega
theorem bulk_len {H : Type} (l : List (DataW H)) : l.length ≤ Rows.uptoBulkAll l := by
  induction l with
  | nil => simp [Rows.uptoBulkAll]
  | cons x r ih => have := bulk_one x; simp only [Rows.uptoBulkAll, List.length_cons]; omega
theorem list2 {α : Type} {l : List α} (h : l.length = 2) : ∃ a b, l = [a, b] := by
  match l, h with
  | [a, b], _ => exact ⟨a, b, rfl⟩
theorem list4 {α : Type} {l : List α} (h : l.length = 4) : ∃ a b c d, l = [a, b, c, d] := by
  match l, h with
  | [a, b, c, d], _ => exact ⟨a, b, c, d, rfl⟩
theorem list7 {α : Type} {l : List α} (h : l.length = 7) : ∃ a b c d e f g, l = [a, b, c, d, e, f, g] := by
  match l, h with
  | [a, b, c, d, e, f, g], _ => exact ⟨a, b, c, d, e, f, g, rfl⟩
section
variable {H : Type} {enc : TypeId × Value → H} {w : World} {spare : Nat → Bool} {held : Bool}
theorem recs_map {α β : Type} {encA : β → List Value} {g : α → β} {S : Nat → Prop} {v : Value} {l : List α} (h : Recs (fun x => encA (g x)) S w v l) : Recs encA S w v (l.map g) := by
  obtain ⟨A, c, rfl, h1, h2, h3⟩ := h
  refine ⟨A, c, by simp, by simpa using h1, h2, ?_⟩
  rw [List.flatMap_map]
  exact h3
theorem int_el {m : Nat} {c : Value} {y : DataW H × List MemPlace} (h : DataW.trod enc Try.prog w 0 spare held m 3 [c] = some y) : ∃ z, c = .int .i64 z ∧ InR z := by
  obtain ⟨z, e, _, hw⟩ := DataW.trod_int Try.underlying3 h
  cases e
  exact ⟨z, rfl, wf_i64 hw⟩
theorem ints_open {fuel : Nat} {A : Option Addr} {n c : Nat} {d : DataW H} {pl : List MemPlace} (h : DataW.trod enc Try.prog w 0 spare held fuel 46 [.slice A n c] = some (d, pl)) : ∃ l, Recs encZ (· < w.heap.size) w (.slice A n c) l ∧ (∀ z ∈ l, InR z) ∧ l.length ≤ Rows.uptoBulk d := by
  obtain ⟨xs, hR, hd⟩ := recs_of_trod (enc := enc) (P := Try.prog) encZ encZ_len (by omega) (fun z _ => InR z) Try.underlying46 (by kernel_rfl) h (fun m cs d' pl' hl ht => by
    match cs, hl with
    | [c0], _ =>
      obtain ⟨z, rfl, hz⟩ := int_el ht
      exact ⟨z, rfl, hz⟩)
  refine ⟨xs, hR, ?_, ?_⟩
  · rcases hd with ⟨_, rfl⟩ | ⟨elems, rest, _, he, hel⟩
    · simp
    · intro z hz
      obtain ⟨i, hi⟩ := List.mem_iff_getElem?.1 hz
      obtain ⟨d', _, hr⟩ := hel i z hi
      exact hr
  · rcases hd with ⟨rfl, rfl⟩ | ⟨elems, rest, rfl, he, _⟩
    · simp
    · have := bulk_len elems
      simp only [Rows.uptoBulk]
      omega
theorem ev_el {m : Nat} {cs : List Value} {d' : DataW H} {pl' : List MemPlace} (hl : cs.length = 7) (h : DataW.trod enc Try.prog w 0 spare held m 36 cs = some (d', pl')) : ∃ e : Ev, cs = encEv e ∧ ∀ z ∈ e.l, InR z := by
  obtain ⟨c0, c1, c2, c3, c4, c5, c6, rfl⟩ := list7 hl
  obtain ⟨xs, n, _, _, _, hlen, hf⟩ := DataW.trod_struct Try.underlying36 h
  have hlen6 : xs.length = 6 := hlen
  have g : ∀ i, i < 6 → xs[i]? = some (xs.getD i (.nil, [])) := fun i hi => by
    rw [List.getElem?_eq_getElem (by omega), List.getD_eq_getElem?_getD, List.getElem?_eq_getElem (by omega)]
    rfl
  have h0 : DataW.trod enc Try.prog w 0 spare held n 3 [c0] = some _ := (hf 0 _ rfl).trans (g 0 (by omega))
  have h1 : DataW.trod enc Try.prog w 0 spare held n 3 [c1] = some _ := (hf 1 _ rfl).trans (g 1 (by omega))
  have h2 : DataW.trod enc Try.prog w 0 spare held n 3 [c2] = some _ := (hf 2 _ rfl).trans (g 2 (by omega))
  have h3 : DataW.trod enc Try.prog w 0 spare held n 34 [c3, c4] = some _ := (hf 3 _ rfl).trans (g 3 (by omega))
  have h5 : DataW.trod enc Try.prog w 0 spare held n 3 [c5] = some _ := (hf 4 _ rfl).trans (g 4 (by omega))
  have h6 : DataW.trod enc Try.prog w 0 spare held n 3 [c6] = some _ := (hf 5 _ rfl).trans (g 5 (by omega))
  obtain ⟨y3, y4, n', _, _, k3, k4⟩ := trod_struct2 Try.underlying34 h3
  have h3' : DataW.trod enc Try.prog w 0 spare held n' 3 [c3] = some _ := k3
  have h4' : DataW.trod enc Try.prog w 0 spare held n' 3 [c4] = some _ := k4
  obtain ⟨z0, rfl, r0⟩ := int_el h0
  obtain ⟨z1, rfl, r1⟩ := int_el h1
  obtain ⟨z2, rfl, r2⟩ := int_el h2
  obtain ⟨z3, rfl, r3⟩ := int_el h3'
  obtain ⟨z4, rfl, r4⟩ := int_el h4'
  obtain ⟨z5, rfl, r5⟩ := int_el h5
  obtain ⟨z6, rfl, r6⟩ := int_el h6
  refine ⟨⟨z0, z1, z2, z3, z4, z5, z6⟩, rfl, fun z hz => ?_⟩
  simp [Ev.l] at hz
  rcases hz with rfl | rfl | rfl | rfl | rfl | rfl | rfl <;> assumption
theorem list_open {α : Type} [Inhabited α] (encA : α → List Value) {k : Nat} (hk : ∀ x, (encA x).length = k) (hk0 : 0 < k) (L : α → List Int) {t e : TypeId} {fuel : Nat} {A : Option Addr} {n c : Nat} {d : DataW H} {pl : List MemPlace} (ht : Try.prog.underlying t = some (.slice e)) (hc : Try.prog.cellsOf e = k)
    (h : DataW.trod enc Try.prog w 0 spare held fuel t [.slice A n c] = some (d, pl)) (hel : ∀ (m : Nat) (cs : List Value) (d' : DataW H) (pl' : List MemPlace), cs.length = k → DataW.trod enc Try.prog w 0 spare held m e cs = some (d', pl') → ∃ x, cs = encA x ∧ ∀ z ∈ L x, InR z) :
    ∃ xs, Recs encA (· < w.heap.size) w (.slice A n c) xs ∧ ∀ x ∈ xs, ∀ z ∈ L x, InR z := by
  obtain ⟨xs, hR, hd⟩ := recs_of_trod (enc := enc) (P := Try.prog) encA hk hk0 (fun x _ => ∀ z ∈ L x, InR z) ht hc h hel
  refine ⟨xs, hR, fun x hx => ?_⟩
  rcases hd with ⟨_, rfl⟩ | ⟨elems, rest, _, he, hel'⟩
  · simp at hx
  · obtain ⟨i, hi⟩ := List.mem_iff_getElem?.1 hx
    obtain ⟨d', _, hr⟩ := hel' i x hi
    exact hr
end
end Go.Proofs.Ytjcfnpmgklliiaa
