/-
  What a crash leaves of pending bytes, in plain terms; zeroed parts of a row.
-/
import Derived.Test.YtmbbngdhdhgliaaByte
import Derived.Laws.IdiomCopy
import Derived.Lib.SliceRun
namespace Go.Proofs.Ytmbbngdhdhgliaa
open Go.RowKit
set_option linter.unusedVariables false

/-- sectors of L are zero -/
def maskL (q : List UInt8) (L : List Int) : List UInt8 := q.mapIdx (fun i c => if ((i / 16 : Nat) : Int) ∈ L then 0 else c)
theorem maskL_nil (q : List UInt8) : maskL q [] = q := by
  unfold maskL
  apply List.ext_getElem?
  intro i
  simp
theorem maskL_len (q : List UInt8) (L : List Int) : (maskL q L).length = q.length := by simp [maskL]
theorem maskL_get (q : List UInt8) (L : List Int) (i : Nat) : (maskL q L)[i]? = q[i]?.map (fun c => if ((i / 16 : Nat) : Int) ∈ L then 0 else c) := by simp [maskL]
/-- m bytes from o on become zero -/
def zr (l : List UInt8) : Nat → Nat → List UInt8
  | _, 0 => l
  | o, m + 1 => zr (l.set o 0) (o + 1) m
theorem zr_len : ∀ (m : Nat) (l : List UInt8) (o : Nat), (zr l o m).length = l.length
  | 0, _, _ => rfl
  | m + 1, l, o => by rw [zr, zr_len m]; simp
theorem zr_get : ∀ (m : Nat) (l : List UInt8) (o i : Nat), (zr l o m)[i]? = if o ≤ i ∧ i < o + m then l[i]?.map (fun _ => 0) else l[i]?
  | 0, l, o, i => by rw [zr, if_neg (by omega)]
  | m + 1, l, o, i => by
    rw [zr, zr_get m, List.getElem?_set]
    by_cases h : o = i
    · subst h
      rw [if_neg (by omega), if_pos rfl, if_pos (⟨Nat.le_refl _, by omega⟩ : o ≤ o ∧ o < o + (m + 1))]
      by_cases h2 : o < l.length
      · rw [if_pos h2, List.getElem?_eq_getElem h2]
        rfl
      · rw [if_neg h2, List.getElem?_eq_none (by omega)]
        rfl
    · by_cases h2 : o + 1 ≤ i ∧ i < o + 1 + m
      · rw [if_pos h2, if_neg h, if_pos (by omega)]
      · rw [if_neg h2, if_neg h, if_neg (by omega)]
theorem mask_step (q : List UInt8) (L : List Int) (n e : Nat) (he : e = min ((n + 1) * 16) q.length) (hn : n * 16 ≤ q.length) : zr (maskL q L) (n * 16) (e - n * 16) = maskL q (L ++ [(n : Int)]) := by
  apply List.ext_getElem?
  intro i
  rw [zr_get, maskL_get, maskL_get]
  by_cases hi : i < q.length
  · rw [List.getElem?_eq_getElem hi]
    by_cases h : n * 16 ≤ i ∧ i < n * 16 + (e - n * 16)
    · rw [if_pos h]
      have : i / 16 = n := by omega
      simp [this]
    · rw [if_neg h]
      have : ¬ ((i / 16 : Nat) : Int) = (n : Int) := by omega
      simp only [List.mem_append, List.mem_singleton, this, or_false]
  · rw [List.getElem?_eq_none (by omega)]
    simp
theorem mask_same (q : List UInt8) (L : List Int) (n : Int) (h : n < 0 ∨ ((q.length + 15) / 16 : Nat) ≤ n) : maskL q (L ++ [n]) = maskL q L := by
  apply List.ext_getElem?
  intro i
  rw [maskL_get, maskL_get]
  by_cases hi : i < q.length
  · have : ¬ ((i / 16 : Nat) : Int) = n := by omega
    simp only [List.mem_append, List.mem_singleton, this, or_false]
  · rw [List.getElem?_eq_none (by omega)]
    rfl
/-- how many pending bytes are kept -/
def keepN (p : List UInt8) (keep : Int) : Nat := (min (max keep 0) (p.length : Int)).toNat
theorem keepN_le (p : List UInt8) (keep : Int) : keepN p keep ≤ p.length := by unfold keepN; omega
def tornL (p : List UInt8) (keep : Int) (lost : List Int) : List UInt8 := maskL (p.take (keepN p keep)) lost

/-! ### in memory -/
theorem OwnR.setB {w : World} {base : Nat} {e : TypeId} {g n c : Nat} {l : List UInt8} (h : OwnR encB 1 w base e (.slice (some ⟨g, 0, none⟩) n c) l) (j : Nat) (x : UInt8) :
    OwnR encB 1 (w.setCell ⟨g, j, none⟩ (.int .u8 (x.toNat : Int))) base e (.slice (some ⟨g, 0, none⟩) n c) (l.set j x) := by
  have hl := h.len.1
  unfold OwnR at *
  rw [List.length_set, flatB, List.map_set, ← flatB]
  subst hl
  exact (World.ownsRow.stored h _ _).1
theorem OwnR.zr_ {base : Nat} {e : TypeId} {g n c : Nat} : ∀ (m : Nat) (w : World) (l : List UInt8) (o : Nat), OwnR encB 1 w base e (.slice (some ⟨g, 0, none⟩) n c) l → OwnR encB 1 (w.setCells g o (List.replicate m (.int .u8 0))) base e (.slice (some ⟨g, 0, none⟩) n c) (zr l o m)
  | 0, w, l, o, h => h
  | m + 1, w, l, o, h => by
    rw [List.replicate_succ]
    show OwnR encB 1 ((w.setCell ⟨g, o, none⟩ (.int .u8 0)).setCells g (o + 1) (List.replicate m (.int .u8 0))) _ _ _ _
    exact OwnR.zr_ m _ _ (o + 1) (h.setB o 0)
theorem grown_cells (g : Nat) : ∀ (vs : List Value) (o : Nat) (w : World), w.grownBy (w.setCells g o vs) (some g)
  | [], _, w => ⟨rfl, rfl, rfl, Nat.le_refl _, fun _ _ _ => rfl⟩
  | v :: vs, o, w => by
    have h1 : w.grownBy (w.setCell ⟨g, o, none⟩ v) (some g) := grown_set ⟨rfl, rfl, rfl, Nat.le_refl _, fun _ _ _ => rfl⟩
    have h2 := grown_cells g vs (o + 1) (w.setCell ⟨g, o, none⟩ v)
    exact ⟨h2.os.trans h1.os, h2.tape.trans h1.tape, h2.output.trans h1.output, Nat.le_trans h1.size h2.size, fun k hk hne => (h2.block k (Nat.lt_of_lt_of_le hk h1.size) hne).trans (h1.block k hk hne)⟩
/-- the run of clear on a part of a row of the call's own -/
theorem run_clearB {w : World} {base : Nat} {e : TypeId} {g n c : Nat} {l : List UInt8} (h : OwnR encB 1 w base e (.slice (some ⟨g, 0, none⟩) n c) l) (o m cc : Nat) (hom : o + m ≤ n) (hm : 0 < m) (ty : TypeId) :
    (Builtin.clear_ #[30] ty #[.slice (some ⟨g, o, none⟩) m cc]).run Try.prog w = .ok (.tuple #[]) (w.setCells g o (List.replicate m (.int .u8 0))) := by
  have hl := h.len.1
  refine Lib.run_clear_slice w 30 5 ty (.int .u8 0) Try.underlying30 (fun w => ?_) rfl rfl g o m cc hm (fun j hj => ?_) (fun j hj => ?_)
  · obtain ⟨i, hi, hz, _⟩ := info_parts infoB
    simp [zeroValue, typeInfo, hi, hz]
  · obtain ⟨b, off, x, e1, _, _, hc⟩ := h.recs.byte (k := o + j) (by omega)
    cases e1
    rw [Nat.zero_add] at hc
    rw [hc]
    rfl
  · subst hl
    exact World.ownsRow.frozenAt h _
end Go.Proofs.Ytmbbngdhdhgliaa
