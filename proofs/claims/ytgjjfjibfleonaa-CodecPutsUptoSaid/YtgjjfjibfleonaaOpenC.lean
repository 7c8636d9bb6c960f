/-
  The reading of determinants, pages and states.
-/
import Derived.Test.YtgjjfjibfleonaaRows
import Derived.Test.YtgjjfjibfleonaaOpen
import Derived.Test.YtgjjfjibfleonaaPutS
import Derived.Lib.SmallJoins
namespace Go.Proofs.Ytgjjfjibfleonaa
open Go.RowKit Go.Deep Go.ChangeShapes Go.WideShapes Go.Joins
set_option maxRecDepth 100000
set_option linter.unusedVariables false

theorem bulk_one {H : Type} (d : DataW H) : 1 ≤ Rows.uptoBulk d := by
  cases d with
  | lit l => cases l <;> simp [Rows.uptoBulk]
  | nil => simp [Rows.uptoBulk]
  | ptr d => simp [Rows.uptoBulk]
  | slice elems spare => simp [Rows.uptoBulk]
  | agg parts => simp [Rows.uptoBulk]
  | iface n d => simp [Rows.uptoBulk]
  | map entries => simp [Rows.uptoBulk]
  | held h => simp [Rows.uptoBulk]
theorem bulk_get {H : Type} : ∀ (l : List (DataW H)) (i : Nat) (d : DataW H), l[i]? = some d → Rows.uptoBulk d ≤ Rows.uptoBulkAll l
  | [], i, d, h => by simp at h
  | x :: l, 0, d, h => by cases h; simp only [Rows.uptoBulkAll]; omega
  | x :: l, i + 1, d, h => by
    have := bulk_get l i d (by simpa using h)
    simp only [Rows.uptoBulkAll]
    omega
theorem bulk_len {H : Type} (l : List (DataW H)) : l.length ≤ Rows.uptoBulkAll l := by
  induction l with
  | nil => simp [Rows.uptoBulkAll]
  | cons x r ih => have := bulk_one x; simp only [Rows.uptoBulkAll, List.length_cons]; omega
theorem list2 {α : Type} {l : List α} (h : l.length = 2) : ∃ a b, l = [a, b] := by
  match l, h with
  | [a, b], _ => exact ⟨a, b, rfl⟩
theorem list4 {α : Type} {l : List α} (h : l.length = 4) : ∃ a b c d, l = [a, b, c, d] := by
  match l, h with
  | [a, b, c, d], _ => exact ⟨a, b, c, d, rfl⟩
theorem list7 {α : Type} {l : List α} (h : l.length = 7) : ∃ a b c d e f g, l = [a, b, c, d, e, f, g] := by
  match l, h with
  | [a, b, c, d, e, f, g], _ => exact ⟨a, b, c, d, e, f, g, rfl⟩
section
variable {H : Type} {enc : TypeId × Value → H} {w : World} {spare : Nat → Bool} {held : Bool}
theorem recs_map {α β : Type} {encA : β → List Value} {g : α → β} {S : Nat → Prop} {v : Value} {l : List α} (h : Recs (fun x => encA (g x)) S w v l) : Recs encA S w v (l.map g) := by
  obtain ⟨A, c, rfl, h1, h2, h3⟩ := h
  refine ⟨A, c, by simp, by simpa using h1, h2, ?_⟩
  rw [List.flatMap_map]
  exact h3
theorem int_el {m : Nat} {c : Value} {y : DataW H × List MemPlace} (h : DataW.trod enc Try.prog w 0 spare held m 3 [c] = some y) : ∃ z, c = .int .i64 z ∧ InR z := by
  obtain ⟨z, e, _, hw⟩ := DataW.trod_int Try.underlying3 h
  cases e
  exact ⟨z, rfl, wf_i64 hw⟩
theorem ints_open {fuel : Nat} {A : Option Addr} {n c : Nat} {d : DataW H} {pl : List MemPlace} (h : DataW.trod enc Try.prog w 0 spare held fuel 25 [.slice A n c] = some (d, pl)) : ∃ l, Recs encZ (· < w.heap.size) w (.slice A n c) l ∧ (∀ z ∈ l, InR z) ∧ l.length ≤ Rows.uptoBulk d := by
  obtain ⟨xs, hR, hd⟩ := recs_of_trod (enc := enc) (P := Try.prog) encZ encZ_len (by omega) (fun z _ => InR z) Try.underlying25 (by kernel_rfl) h (fun m cs d' pl' hl ht => by
    match cs, hl with
    | [c0], _ =>
      obtain ⟨z, rfl, hz⟩ := int_el ht
      exact ⟨z, rfl, hz⟩)
  refine ⟨xs, hR, ?_, ?_⟩
  · rcases hd with ⟨_, rfl⟩ | ⟨elems, rest, _, he, hel⟩
    · simp
    · intro z hz
      obtain ⟨i, hi⟩ := List.mem_iff_getElem?.1 hz
      obtain ⟨d', _, hr⟩ := hel i z hi
      exact hr
  · rcases hd with ⟨rfl, rfl⟩ | ⟨elems, rest, rfl, he, _⟩
    · simp
    · have := bulk_len elems
      simp only [Rows.uptoBulk]
      omega
theorem ev_el {m : Nat} {cs : List Value} {d' : DataW H} {pl' : List MemPlace} (hl : cs.length = 7) (h : DataW.trod enc Try.prog w 0 spare held m 35 cs = some (d', pl')) : ∃ e : Ev, cs = encEv e ∧ ∀ z ∈ e.l, InR z := by
  obtain ⟨c0, c1, c2, c3, c4, c5, c6, rfl⟩ := list7 hl
  obtain ⟨xs, n, _, _, _, hlen, hf⟩ := DataW.trod_struct Try.underlying35 h
  have hlen6 : xs.length = 6 := hlen
  have g : ∀ i, i < 6 → xs[i]? = some (xs.getD i (.nil, [])) := fun i hi => by
    rw [List.getElem?_eq_getElem (by omega), List.getD_eq_getElem?_getD, List.getElem?_eq_getElem (by omega)]
    rfl
  have h0 : DataW.trod enc Try.prog w 0 spare held n 3 [c0] = some _ := (hf 0 _ rfl).trans (g 0 (by omega))
  have h1 : DataW.trod enc Try.prog w 0 spare held n 3 [c1] = some _ := (hf 1 _ rfl).trans (g 1 (by omega))
  have h2 : DataW.trod enc Try.prog w 0 spare held n 3 [c2] = some _ := (hf 2 _ rfl).trans (g 2 (by omega))
  have h3 : DataW.trod enc Try.prog w 0 spare held n 33 [c3, c4] = some _ := (hf 3 _ rfl).trans (g 3 (by omega))
  have h5 : DataW.trod enc Try.prog w 0 spare held n 3 [c5] = some _ := (hf 4 _ rfl).trans (g 4 (by omega))
  have h6 : DataW.trod enc Try.prog w 0 spare held n 3 [c6] = some _ := (hf 5 _ rfl).trans (g 5 (by omega))
  obtain ⟨y3, y4, n', _, _, k3, k4⟩ := trod_struct2 Try.underlying33 h3
  have h3' : DataW.trod enc Try.prog w 0 spare held n' 3 [c3] = some _ := k3
  have h4' : DataW.trod enc Try.prog w 0 spare held n' 3 [c4] = some _ := k4
  obtain ⟨z0, rfl, r0⟩ := int_el h0
  obtain ⟨z1, rfl, r1⟩ := int_el h1
  obtain ⟨z2, rfl, r2⟩ := int_el h2
  obtain ⟨z3, rfl, r3⟩ := int_el h3'
  obtain ⟨z4, rfl, r4⟩ := int_el h4'
  obtain ⟨z5, rfl, r5⟩ := int_el h5
  obtain ⟨z6, rfl, r6⟩ := int_el h6
  refine ⟨⟨z0, z1, z2, z3, z4, z5, z6⟩, rfl, fun z hz => ?_⟩
  simp [Ev.l] at hz
  rcases hz with rfl | rfl | rfl | rfl | rfl | rfl | rfl <;> assumption
theorem list_open {α : Type} [Inhabited α] (encA : α → List Value) {k : Nat} (hk : ∀ x, (encA x).length = k) (hk0 : 0 < k) (L : α → List Int) {t e : TypeId} {fuel : Nat} {A : Option Addr} {n c : Nat} {d : DataW H} {pl : List MemPlace} (ht : Try.prog.underlying t = some (.slice e)) (hc : Try.prog.cellsOf e = k)
    (h : DataW.trod enc Try.prog w 0 spare held fuel t [.slice A n c] = some (d, pl)) (hel : ∀ (m : Nat) (cs : List Value) (d' : DataW H) (pl' : List MemPlace), cs.length = k → DataW.trod enc Try.prog w 0 spare held m e cs = some (d', pl') → ∃ x, cs = encA x ∧ ∀ z ∈ L x, InR z) :
    ∃ xs, Recs encA (· < w.heap.size) w (.slice A n c) xs ∧ ∀ x ∈ xs, ∀ z ∈ L x, InR z := by
  obtain ⟨xs, hR, hd⟩ := recs_of_trod (enc := enc) (P := Try.prog) encA hk hk0 (fun x _ => ∀ z ∈ L x, InR z) ht hc h hel
  refine ⟨xs, hR, fun x hx => ?_⟩
  rcases hd with ⟨_, rfl⟩ | ⟨elems, rest, _, he, hel'⟩
  · simp at hx
  · obtain ⟨i, hi⟩ := List.mem_iff_getElem?.1 hx
    obtain ⟨d', _, hr⟩ := hel' i x hi
    exact hr
theorem sn_el {m : Nat} {cs : List Value} {d' : DataW H} {pl' : List MemPlace} (hl : cs.length = 4) (h : DataW.trod enc Try.prog w 0 spare held m 73 cs = some (d', pl')) : ∃ e : Snd, cs = encSn e ∧ ∀ z ∈ e.l, InR z := by
  obtain ⟨c0, c1, c2, c3, rfl⟩ := list4 hl
  obtain ⟨y0, y1, y2, y3, n, _, _, k0, k1, k2, k3⟩ := trod_struct4 Try.underlying73 h
  have h0 : DataW.trod enc Try.prog w 0 spare held n 3 [c0] = some _ := k0
  have h1 : DataW.trod enc Try.prog w 0 spare held n 3 [c1] = some _ := k1
  have h2 : DataW.trod enc Try.prog w 0 spare held n 3 [c2] = some _ := k2
  have h3 : DataW.trod enc Try.prog w 0 spare held n 3 [c3] = some _ := k3
  obtain ⟨z0, rfl, r0⟩ := int_el h0
  obtain ⟨z1, rfl, r1⟩ := int_el h1
  obtain ⟨z2, rfl, r2⟩ := int_el h2
  obtain ⟨z3, rfl, r3⟩ := int_el h3
  refine ⟨⟨z0, z1, z2, z3⟩, rfl, fun z hz => ?_⟩
  simp [Snd.l] at hz
  rcases hz with rfl | rfl | rfl | rfl <;> assumption
theorem ou_el {m : Nat} {cs : List Value} {d' : DataW H} {pl' : List MemPlace} (hl : cs.length = 2) (h : DataW.trod enc Try.prog w 0 spare held m 75 cs = some (d', pl')) : ∃ e : Ou, cs = encOu e ∧ ∀ z ∈ e.l, InR z := by
  obtain ⟨c0, c1, rfl⟩ := list2 hl
  obtain ⟨y0, y1, n, _, _, k0, k1⟩ := trod_struct2 Try.underlying75 h
  have h0 : DataW.trod enc Try.prog w 0 spare held n 3 [c0] = some _ := k0
  have h1 : DataW.trod enc Try.prog w 0 spare held n 3 [c1] = some _ := k1
  obtain ⟨z0, rfl, r0⟩ := int_el h0
  obtain ⟨z1, rfl, r1⟩ := int_el h1
  refine ⟨⟨z0, z1⟩, rfl, fun z hz => ?_⟩
  simp [Ou.l] at hz
  rcases hz with rfl | rfl <;> assumption
theorem pages_open {fuel : Nat} {A : Option Addr} {n c : Nat} {d : DataW H} {pl : List MemPlace} (h : DataW.trod enc Try.prog w 0 spare held fuel 38 [.slice A n c] = some (d, pl)) (hb : Rows.uptoBulk d ≤ 2000000) : ∃ ps, Pgs (· < w.heap.size) w (.slice A n c) ps ∧ ∀ p ∈ ps, PgOk p := by
  obtain ⟨qs, hR, hd⟩ := recs_of_trod (enc := enc) (P := Try.prog) (fun p : PgV × Pg => encPg p.1) (fun p => encPg_len p.1) (by omega) (fun p d' => (p.1.num = p.2.num ∧ Recs encZ (· < w.heap.size) w (.slice p.1.A p.1.n p.1.c) p.2.cells) ∧ InR p.2.num ∧ (∀ z ∈ p.2.cells, InR z) ∧ p.2.cells.length ≤ Rows.uptoBulk d') Try.underlying38 (by kernel_rfl) h (fun m cs d' pl' hl ht => by
    obtain ⟨c0, c1, rfl⟩ := list2 hl
    obtain ⟨y0, y1, m', hx, _, h0, h1⟩ := trod_struct2 Try.underlying71 ht
    have h0' : DataW.trod enc Try.prog w 0 spare held m' 3 [c0] = some y0 := h0
    have h1' : DataW.trod enc Try.prog w 0 spare held m' 25 [c1] = some y1 := h1
    obtain ⟨z, rfl, hz⟩ := int_el h0'
    obtain ⟨a1, l1, k1, e1⟩ := slice_form Try.underlying25 h1'
    cases e1
    obtain ⟨p, hp, hpr, hpl⟩ := ints_open h1'
    cases hx
    refine ⟨(⟨z, a1, l1, k1⟩, ⟨z, p⟩), rfl, ⟨rfl, hp⟩, hz, hpr, ?_⟩
    simp only [Rows.uptoBulk, Rows.uptoBulkAll]
    omega)
  refine ⟨qs.map (·.2), ⟨qs.map (·.1), recs_map hR, by simp, fun i x f hx hf => ?_⟩, fun f hf => ?_⟩
  · rcases hd with ⟨_, rfl⟩ | ⟨elems, rest, rfl, he, hel⟩
    · simp at hx
    · rw [List.getElem?_map] at hx hf
      obtain ⟨q, hq, rfl⟩ := Option.map_eq_some_iff.1 hx
      rw [hq] at hf
      cases hf
      obtain ⟨d', _, hR'⟩ := hel i q hq
      exact hR'.1
  · rcases hd with ⟨_, rfl⟩ | ⟨elems, rest, rfl, he, hel⟩
    · simp at hf
    · obtain ⟨q, hq, rfl⟩ := List.mem_map.1 hf
      obtain ⟨i, hi⟩ := List.mem_iff_getElem?.1 hq
      obtain ⟨d', hd', hR'⟩ := hel i q hi
      have h1 := bulk_get elems i d' hd'
      have h2 := hR'.2.2.2
      simp only [Rows.uptoBulk] at hb
      exact ⟨hR'.2.1, hR'.2.2.1, by omega⟩
end
end Go.Proofs.Ytgjjfjibfleonaa
