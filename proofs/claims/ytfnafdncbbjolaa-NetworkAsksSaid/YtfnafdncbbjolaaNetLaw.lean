/-
  Plain facts for the laws of the network: a row of counters; which messages were counted.
-/
import Derived.Test.YtfnafdncbbjolaaAwake
import Derived.Test.YtfnafdncbbjolaaLexL
namespace Go.Proofs.Ytfnafdncbbjolaa
open Go.RowKit
set_option linter.unusedVariables false

/-! ### a row of integers known whole -/
def irow (n : Nat) (f : Nat → Int) : Array Value := ((List.range n).map (fun i => Value.int .i64 (f i))).toArray
theorem irow_get (n : Nat) (f : Nat → Int) (i : Nat) (h : i < n) : (irow n f)[i]? = some (.int .i64 (f i)) := by simp [irow, h]
theorem irow_made (n : Nat) : madeCells #[.int .i64 0] n = irow n (fun _ => 0) := by
  apply Array.ext_getElem?
  intro i
  by_cases h : i < n
  · rw [irow_get _ _ _ h]
    simp [madeCells, h, Nat.mod_one]
  · simp [madeCells, irow, h]
theorem irow_set (n : Nat) (f : Nat → Int) (k : Nat) (x : Int) : (irow n f).setIfInBounds k (.int .i64 x) = irow n (fun i => if i = k then x else f i) := by
  apply Array.ext_getElem?
  intro i
  by_cases h : i < n
  · rw [irow_get _ _ _ h]
    by_cases e : i = k
    · subst e
      rw [Array.getElem?_setIfInBounds_self_of_lt (by simpa [irow] using h)]
      simp
    · rw [Array.getElem?_setIfInBounds_ne (fun h => e h.symm), irow_get _ _ _ h]
      simp [e]
  · simp [irow, h]
def IRow (w : World) (g n : Nat) (f : Nat → Int) : Prop := w.heap[g]? = some (.cells (irow n f) 3 (0, 0))
theorem IRow.cell {w : World} {g n : Nat} {f : Nat → Int} (h : IRow w g n f) {i : Nat} (hi : i < n) : w.cell? ⟨g, i, none⟩ = some (.int .i64 (f i)) := by
  rw [cell_of_row _ _ _ _ _ _ h, irow_get _ _ _ hi]
theorem IRow.frozen {w : World} {g n : Nat} {f : Nat → Int} (h : IRow w g n f) (i : Nat) : w.frozen? ⟨g, i, none⟩ = false := frozen_of_row _ _ _ _ _ h
theorem IRow.set {w : World} {g n : Nat} {f : Nat → Int} (h : IRow w g n f) (k : Nat) (x : Int) : IRow (w.setCell ⟨g, k, none⟩ (.int .i64 x)) g n (fun i => if i = k then x else f i) := by
  unfold IRow at *
  rw [heap_setCell_same _ _ _ _ _ _ h, ← irow_set]

/-! ### which messages were counted -/
def specJ (ms : List Msg) (a b j : Nat) (i : Nat) : Int :=
  match ms[i]? with
  | none => 0
  | some m => (if m.f < a ∨ (m.f = a ∧ m.t < b) then 1 else 0) + if i ∈ (chN ms a b ms.length).take j then 1 else 0
theorem chN_mem {ms : List Msg} {fr to : Int} {k n : Nat} (h : k ∈ chN ms fr to n) : k < n ∧ ∃ m, ms[k]? = some m ∧ m.f = fr ∧ m.t = to := by
  unfold chN at h
  rw [List.mem_filter] at h
  obtain ⟨h1, h2⟩ := h
  refine ⟨by simpa using h1, ?_⟩
  cases hm : ms[k]? with
  | none => rw [hm] at h2; simp at h2
  | some m =>
    rw [hm] at h2
    simp [isCh] at h2
    exact ⟨m, rfl, h2.1, h2.2⟩
theorem mem_chN {ms : List Msg} {fr to : Int} {k : Nat} {m : Msg} (hk : ms[k]? = some m) (h1 : m.f = fr) (h2 : m.t = to) : k ∈ chN ms fr to ms.length := by
  obtain ⟨hlt, rfl⟩ := List.getElem?_eq_some_iff.1 hk
  unfold chN
  simp [hlt, isCh, h1, h2]
theorem chN_sorted (ms : List Msg) (fr to : Int) (n : Nat) : (chN ms fr to n).Pairwise (· < ·) := List.Pairwise.filter _ List.pairwise_lt_range
theorem chN_before {ms : List Msg} {fr to : Int} {n i j x y : Nat} (hij : i < j) (hx : (chN ms fr to n)[i]? = some x) (hy : (chN ms fr to n)[j]? = some y) : x < y := by
  obtain ⟨h1, rfl⟩ := List.getElem?_eq_some_iff.1 hx
  obtain ⟨h2, rfl⟩ := List.getElem?_eq_some_iff.1 hy
  exact List.pairwise_iff_getElem.1 (chN_sorted ms fr to n) i j h1 h2 hij
theorem specJ_start (ms : List Msg) (h : ∀ m ∈ ms, 0 ≤ m.f ∧ m.f < 3 ∧ 0 ≤ m.t ∧ m.t < 3) (i : Nat) : specJ ms 0 0 0 i = 0 := by
  unfold specJ
  split
  · rfl
  · rename_i m hm
    have := h m (List.mem_of_getElem? hm)
    rw [if_neg (by omega)]
    simp
theorem specJ_step (ms : List Msg) (a b j k : Nat) (hk : (chN ms a b ms.length)[j]? = some k) (i : Nat) : specJ ms a b (j + 1) i = if i = k then specJ ms a b j k + 1 else specJ ms a b j i := by
  have hmem : k ∈ chN ms a b ms.length := List.mem_of_getElem? hk
  obtain ⟨_, m, hm, h1, h2⟩ := chN_mem hmem
  have hnot : k ∉ (chN ms a b ms.length).take j := by
    intro hin
    obtain ⟨q, hq1, hq2⟩ := List.mem_take_iff_getElem.1 hin
    have := chN_before (i := q) (j := j) (by omega) (List.getElem?_eq_getElem (by omega)) hk
    omega
  unfold specJ
  rw [List.take_add_one, hk]
  by_cases e : i = k
  · subst e
    simp [hm, hnot]
  · simp [e]
theorem specJ_end (ms : List Msg) (a b : Nat) (i : Nat) : specJ ms a b (chN ms a b ms.length).length i = specJ ms a (b + 1) 0 i := by
  unfold specJ
  rw [List.take_length]
  cases hm : ms[i]? with
  | none => rfl
  | some m =>
    simp only [List.take_zero, List.not_mem_nil, if_false]
    by_cases h : m.f = a ∧ m.t = b
    · have : i ∈ chN ms a b ms.length := mem_chN hm h.1 h.2
      rw [if_neg (by omega), if_pos this, if_pos (by push_cast; omega)]
      rfl
    · have : i ∉ chN ms a b ms.length := fun hin => by
        obtain ⟨_, m', hm', h1, h2⟩ := chN_mem hin
        rw [hm] at hm'
        cases hm'
        exact h ⟨h1, h2⟩
      rw [if_neg this]
      by_cases h' : m.f < a ∨ m.f = a ∧ m.t < b
      · rw [if_pos h', if_pos (by push_cast; omega)]
      · rw [if_neg h', if_neg (by push_cast; omega)]
theorem specJ_row (ms : List Msg) (h : ∀ m ∈ ms, 0 ≤ m.f ∧ m.f < 3 ∧ 0 ≤ m.t ∧ m.t < 3) (a : Nat) (i : Nat) : specJ ms a 3 0 i = specJ ms (a + 1) 0 0 i := by
  unfold specJ
  cases hm : ms[i]? with
  | none => rfl
  | some m =>
    have := h m (List.mem_of_getElem? hm)
    simp only [List.take_zero, List.not_mem_nil, if_false]
    by_cases h' : m.f < a ∨ m.f = a ∧ m.t < (3 : Nat)
    · rw [if_pos h', if_pos (by push_cast at *; omega)]
    · rw [if_neg h', if_neg (by push_cast at *; omega)]
theorem specJ_last (ms : List Msg) (h : ∀ m ∈ ms, 0 ≤ m.f ∧ m.f < 3 ∧ 0 ≤ m.t ∧ m.t < 3) (i : Nat) (hi : i < ms.length) : specJ ms 3 0 0 i = 1 := by
  unfold specJ
  have hm : ms[i]? = some ms[i] := List.getElem?_eq_getElem hi
  have := h ms[i] (List.getElem_mem hi)
  rw [hm]
  simp only [List.take_zero, List.not_mem_nil, if_false]
  rw [if_pos (by push_cast; omega)]
  rfl

theorem isAgg_int (w : World) : (isAgg 3).run Try.prog w = .ok false w := by simp [isAgg, run_underlying Try.underlying3]

theorem mkInts (n : Nat) (hn : n ≤ 1000000) (w : World) : (Instr.makeSlice 29 (.int .i64 (n : Int)) (.int .i64 (n : Int))).run Try.prog w = .ok (.slice (some ⟨w.heap.size, 0, none⟩) n n) (w.alloc (.cells (irow n (fun _ => 0)) 3)) := by
  obtain ⟨i, hi, hz, hs, hb⟩ := info_parts infoI
  have h := run_make (P := Try.prog) w 29 3 i (.int .i64 0) Try.underlying29 hi hz .i64 .i64 n n (by omega) (by omega) (by rw [hb]; omega) (by omega)
  rw [h, hs]
  simp only [Int.toNat_natCast, Nat.mul_one]
  rw [← irow_made]
  rfl
/-- the counters between rounds -/
def Seen (w : World) (g : Nat) (ms : List Msg) (a b j : Nat) : Prop := ∃ f, IRow w g ms.length f ∧ ∀ i, i < ms.length → f i = specJ ms a b j i
theorem Seen.keep {w w' : World} {g : Nat} {ms : List Msg} {a b j : Nat} (h : Seen w g ms a b j) (hk : w'.heap[g]? = w.heap[g]?) : Seen w' g ms a b j := by
  obtain ⟨f, h1, h2⟩ := h
  exact ⟨f, hk.trans h1, h2⟩
theorem Seen.lt {w : World} {g : Nat} {ms : List Msg} {a b j : Nat} (h : Seen w g ms a b j) : g < w.heap.size := by
  obtain ⟨f, h1, _⟩ := h
  exact (Array.getElem?_eq_some_iff.1 h1).1
theorem Seen.same {w : World} {g : Nat} {ms : List Msg} {a b j a' b' j' : Nat} (h : Seen w g ms a b j) (e : ∀ i, i < ms.length → specJ ms a b j i = specJ ms a' b' j' i) : Seen w g ms a' b' j' := by
  obtain ⟨f, h1, h2⟩ := h
  exact ⟨f, h1, fun i hi => (h2 i hi).trans (e i hi)⟩
theorem Seen.at_ {w : World} {g : Nat} {ms : List Msg} {a b j k : Nat} (h : Seen w g ms a b j) (hk : k < ms.length) : ∃ x, w.cell? ⟨g, k, none⟩ = some (.int .i64 x) ∧ w.frozen? ⟨g, k, none⟩ = false ∧ x = specJ ms a b j k ∧ 0 ≤ x ∧ x ≤ 2 ∧ ((chN ms a b ms.length)[j]? = some k → Seen (w.setCell ⟨g, k, none⟩ (.int .i64 (x + 1))) g ms a b (j + 1)) := by
  obtain ⟨f, h1, h2⟩ := h
  have hb : 0 ≤ specJ ms a b j k ∧ specJ ms a b j k ≤ 2 := by
    unfold specJ
    split
    · omega
    · split <;> split <;> omega
  refine ⟨f k, h1.cell hk, h1.frozen k, h2 k hk, by rw [h2 k hk]; exact hb.1, by rw [h2 k hk]; exact hb.2, fun hc => ⟨_, h1.set k (f k + 1), fun i hi => ?_⟩⟩
  rw [specJ_step ms a b j k hc i]
  by_cases e : i = k
  · rw [if_pos e, if_pos e, h2 k hk]
  · rw [if_neg e, if_neg e, h2 i hi]
theorem Keep.rec_ {α : Type} {enc : α → List Value} {S : Nat → Prop} {w w' : World} {v : Value} {l : List α} {g : Nat} (h : Recs enc S w v l) (hS : ∀ b, b < w.heap.size → S b → b ≠ g) (hg : w.grownBy w' (some g)) : Recs enc (· ≠ g) w' v l := (h.mono hS).keep (Keep.of_grown hg)
end Go.Proofs.Ytfnafdncbbjolaa
