/-
  The reading of a disk and of tears.
-/
import Derived.Test.YtmbbngdhdhgliaaRows
import Derived.Test.YtmbbngdhdhgliaaOpen
import Derived.Test.YtmbbngdhdhgliaaSameDisk
import Derived.Lib.SmallJoins
namespace Go.Proofs.Ytmbbngdhdhgliaa
open Go.RowKit Go.Deep Go.ChangeShapes Go.WideShapes Go.Joins
set_option linter.unusedVariables false

theorem bulk_one {H : Type} (d : DataW H) : 1 ≤ Rows.uptoBulk d := by
  cases d with
  | lit l => cases l <;> simp [Rows.uptoBulk]
  | nil => simp [Rows.uptoBulk]
  | ptr d => simp [Rows.uptoBulk]
  | slice elems spare => simp [Rows.uptoBulk]
  | agg parts => simp [Rows.uptoBulk]
  | iface n d => simp [Rows.uptoBulk]
  | map entries => simp [Rows.uptoBulk]
  | held h => simp [Rows.uptoBulk]
theorem bulk_get {H : Type} : ∀ (l : List (DataW H)) (i : Nat) (d : DataW H), l[i]? = some d → Rows.uptoBulk d ≤ Rows.uptoBulkAll l
  | [], i, d, h => by simp at h
  | x :: l, 0, d, h => by cases h; simp only [Rows.uptoBulkAll]; omega
  | x :: l, i + 1, d, h => by
    have := bulk_get l i d (by simpa using h)
    simp only [Rows.uptoBulkAll]
    omega
theorem bulk_len {H : Type} (l : List (DataW H)) : l.length ≤ Rows.uptoBulkAll l := by
  induction l with
  | nil => simp [Rows.uptoBulkAll]
  | cons x r ih => have := bulk_one x; simp only [Rows.uptoBulkAll, List.length_cons]; omega
section
variable {H : Type} {enc : TypeId × Value → H} {w : World} {spare : Nat → Bool} {held : Bool}
theorem recs_map {α β : Type} {encA : β → List Value} {g : α → β} {S : Nat → Prop} {v : Value} {l : List α} (h : Recs (fun x => encA (g x)) S w v l) : Recs encA S w v (l.map g) := by
  obtain ⟨A, c, rfl, h1, h2, h3⟩ := h
  refine ⟨A, c, by simp, by simpa using h1, h2, ?_⟩
  rw [List.flatMap_map]
  exact h3
theorem bytes_open {fuel : Nat} {A : Option Addr} {n c : Nat} {d : DataW H} {pl : List MemPlace} (h : DataW.trod enc Try.prog w 0 spare held fuel 30 [.slice A n c] = some (d, pl)) : ∃ l, By (· < w.heap.size) w (.slice A n c) l ∧ l.length ≤ Rows.uptoBulk d := by
  obtain ⟨xs, hR, hd⟩ := recs_of_trod (enc := enc) (P := Try.prog) encB encB_len (by omega) (fun _ _ => True) Try.underlying30 (by kernel_rfl) h (fun m cs d' pl' hl ht => by
    obtain ⟨y, rfl, _, hw⟩ := DataW.trod_int Try.underlying5 ht
    have hy := wf_u8 hw
    refine ⟨UInt8.ofNat y.toNat, ?_, trivial⟩
    simp [encB, bv_def]
    omega)
  refine ⟨xs, hR, ?_⟩
  rcases hd with ⟨rfl, rfl⟩ | ⟨elems, rest, rfl, he, _⟩
  · simp
  · have := bulk_len elems
    simp only [Rows.uptoBulk]
    omega
theorem ints_open {fuel : Nat} {A : Option Addr} {n c : Nat} {d : DataW H} {pl : List MemPlace} (h : DataW.trod enc Try.prog w 0 spare held fuel 31 [.slice A n c] = some (d, pl)) : ∃ l, Recs encZ (· < w.heap.size) w (.slice A n c) l ∧ l.length ≤ Rows.uptoBulk d := by
  obtain ⟨xs, hR, hd⟩ := recs_of_trod (enc := enc) (P := Try.prog) encZ encZ_len (by omega) (fun _ _ => True) Try.underlying31 (by kernel_rfl) h (fun m cs d' pl' hl ht => by
    obtain ⟨y, rfl, _, hw⟩ := DataW.trod_int Try.underlying3 ht
    exact ⟨y, rfl, trivial⟩)
  refine ⟨xs, hR, ?_⟩
  rcases hd with ⟨rfl, rfl⟩ | ⟨elems, rest, rfl, he, _⟩
  · simp
  · have := bulk_len elems
    simp only [Rows.uptoBulk]
    omega
instance : Inhabited FV := ⟨⟨none, 0, 0, none, 0, 0⟩⟩
instance : Inhabited TV := ⟨⟨0, none, 0, 0⟩⟩
instance : Inhabited Tear := ⟨⟨0, []⟩⟩
theorem disk_open {fuel : Nat} {A : Option Addr} {n c : Nat} {d : DataW H} {pl : List MemPlace} (h : DataW.trod enc Try.prog w 0 spare held fuel 22 [.slice A n c] = some (d, pl)) : ∃ fs, Dsk (· < w.heap.size) w (.slice A n c) fs ∧ ∀ f ∈ fs, f.s.length + f.p.length ≤ Rows.uptoBulk d := by
  obtain ⟨ps, hR, hd⟩ := recs_of_trod (enc := enc) (P := Try.prog) (fun p : FV × Fil => encF p.1) (fun p => encF_len p.1) (by omega) (fun p d' => FOk (· < w.heap.size) w p.1 p.2 ∧ p.2.s.length + p.2.p.length ≤ Rows.uptoBulk d') Try.underlying22 (by kernel_rfl) h (fun m cs d' pl' hl ht => by
    match cs, hl with
    | [c0, c1], _ =>
      obtain ⟨y0, y1, m', hx, _, h0, h1⟩ := trod_struct2 Try.underlying48 ht
      have h0' : DataW.trod enc Try.prog w 0 spare held m' 30 [c0] = some y0 := h0
      have h1' : DataW.trod enc Try.prog w 0 spare held m' 30 [c1] = some y1 := h1
      obtain ⟨a0, l0, k0, e0⟩ := slice_form Try.underlying30 h0'
      obtain ⟨a1, l1, k1, e1⟩ := slice_form Try.underlying30 h1'
      cases e0
      cases e1
      obtain ⟨s, hs, hsl⟩ := bytes_open h0'
      obtain ⟨p, hp, hpl⟩ := bytes_open h1'
      cases hx
      refine ⟨(⟨a0, l0, k0, a1, l1, k1⟩, ⟨s, p⟩), rfl, ⟨hs, hp⟩, ?_⟩
      simp only [Rows.uptoBulk, Rows.uptoBulkAll]
      omega)
  refine ⟨ps.map (·.2), ⟨ps.map (·.1), recs_map hR, by simp, fun i x f hx hf => ?_⟩, fun f hf => ?_⟩
  · rcases hd with ⟨_, rfl⟩ | ⟨elems, rest, rfl, he, hel⟩
    · simp at hx
    · rw [List.getElem?_map] at hx hf
      obtain ⟨q, hq, rfl⟩ := Option.map_eq_some_iff.1 hx
      rw [hq] at hf
      cases hf
      obtain ⟨d', _, hR'⟩ := hel i q hq
      exact hR'.1
  · rcases hd with ⟨_, rfl⟩ | ⟨elems, rest, rfl, he, hel⟩
    · simp at hf
    · obtain ⟨q, hq, rfl⟩ := List.mem_map.1 hf
      obtain ⟨i, hi⟩ := List.mem_iff_getElem?.1 hq
      obtain ⟨d', hd', hR'⟩ := hel i q hi
      have := bulk_get elems i d' hd'
      have := hR'.2
      simp only [Rows.uptoBulk]
      omega
theorem tears_open {fuel : Nat} {A : Option Addr} {n c : Nat} {d : DataW H} {pl : List MemPlace} (h : DataW.trod enc Try.prog w 0 spare held fuel 25 [.slice A n c] = some (d, pl)) : ∃ ts, Trs (· < w.heap.size) w (.slice A n c) ts ∧ ∀ t ∈ ts, t.lost.length ≤ Rows.uptoBulk d := by
  obtain ⟨ps, hR, hd⟩ := recs_of_trod (enc := enc) (P := Try.prog) (fun p : TV × Tear => encT p.1) (fun p => encT_len p.1) (by omega) (fun p d' => (p.1.keep = p.2.keep ∧ Recs encZ (· < w.heap.size) w (.slice p.1.A p.1.n p.1.c) p.2.lost) ∧ p.2.lost.length ≤ Rows.uptoBulk d') Try.underlying25 (by kernel_rfl) h (fun m cs d' pl' hl ht => by
    match cs, hl with
    | [c0, c1], _ =>
      obtain ⟨y0, y1, m', hx, _, h0, h1⟩ := trod_struct2 Try.underlying39 ht
      have h0' : DataW.trod enc Try.prog w 0 spare held m' 3 [c0] = some y0 := h0
      have h1' : DataW.trod enc Try.prog w 0 spare held m' 31 [c1] = some y1 := h1
      obtain ⟨k, e0, _, hw⟩ := DataW.trod_int Try.underlying3 h0'
      obtain ⟨a1, l1, k1, e1⟩ := slice_form Try.underlying31 h1'
      cases e0
      cases e1
      obtain ⟨p, hp, hpl⟩ := ints_open h1'
      cases hx
      refine ⟨(⟨k, a1, l1, k1⟩, ⟨k, p⟩), rfl, ⟨rfl, hp⟩, ?_⟩
      simp only [Rows.uptoBulk, Rows.uptoBulkAll]
      omega)
  refine ⟨ps.map (·.2), ⟨ps.map (·.1), recs_map hR, by simp, fun i x f hx hf => ?_⟩, fun f hf => ?_⟩
  · rcases hd with ⟨_, rfl⟩ | ⟨elems, rest, rfl, he, hel⟩
    · simp at hx
    · rw [List.getElem?_map] at hx hf
      obtain ⟨q, hq, rfl⟩ := Option.map_eq_some_iff.1 hx
      rw [hq] at hf
      cases hf
      obtain ⟨d', _, hR'⟩ := hel i q hq
      exact hR'.1
  · rcases hd with ⟨_, rfl⟩ | ⟨elems, rest, rfl, he, hel⟩
    · simp at hf
    · obtain ⟨q, hq, rfl⟩ := List.mem_map.1 hf
      obtain ⟨i, hi⟩ := List.mem_iff_getElem?.1 hq
      obtain ⟨d', hd', hR'⟩ := hel i q hi
      have := bulk_get elems i d' hd'
      have := hR'.2
      simp only [Rows.uptoBulk]
      omega
end
end Go.Proofs.Ytmbbngdhdhgliaa
