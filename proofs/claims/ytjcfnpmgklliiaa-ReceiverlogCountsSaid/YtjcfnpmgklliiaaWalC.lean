/-
  What a log contains: plain.
-/
import Derived.Test.YtjcfnpmgklliiaaWalB
import Derived.Test.YtjcfnpmgklliiaaCodecD
namespace Go.Proofs.Ytjcfnpmgklliiaa
open Go.RowKit
set_option maxRecDepth 100000
set_option linter.unusedVariables false
set_option linter.unusedSimpArgs false

/-- the determinant that a body is, whole -/
def parse1 (b : List UInt8) : Option Dt := match rdDt b 0 with | .ok x => if x.2 = b.length then some x.1 else none | .error _ => none
def wholeB : List (List UInt8) → List Dt
  | [] => []
  | b :: bs => match parse1 b with | some d => d :: wholeB bs | none => []
/-- the determinants at the beginning of bytes -/
def WholeR (b : List UInt8) (l : List Dt) : Prop := ∃ ps e, Scans b 0 ps e ∧ l = wholeB (ps.map (bodyL b))
theorem whole_ex (b : List UInt8) : ∃ l, WholeR b l := by
  obtain ⟨ps, e, h⟩ := scans_ex b b.length 0 (by omega)
  exact ⟨_, ps, e, h, rfl⟩
theorem whole_uniq {b : List UInt8} {l m : List Dt} (h1 : WholeR b l) (h2 : WholeR b m) : l = m := by
  obtain ⟨ps, e, h, rfl⟩ := h1
  obtain ⟨qs, f, k, rfl⟩ := h2
  rw [(h.unique k).1]
theorem parse_some {b : List UInt8} {d : Dt} (h : parse1 b = some d) : rdDt b 0 = .ok (d, b.length) := by
  unfold parse1 at h
  cases hr : rdDt b 0 with
  | error k => rw [hr] at h; cases h
  | ok x =>
    rw [hr] at h
    by_cases hx : x.2 = b.length
    · simp only [hx, if_true, Option.some.injEq] at h
      rw [← h, ← hx]
    · simp only [hx, if_false] at h
      cases h
theorem parse_in {b : List UInt8} {d : Dt} (h : parse1 b = some d) : DtIn d ∧ detB d = b := by
  have hs := rdDt_seg (parse_some h)
  exact ⟨hs.inr, by have := hs.eq; rw [List.take_length, List.drop_zero] at this; exact this⟩
theorem wholeB_cons {b : List UInt8} {bs : List (List UInt8)} {d : Dt} (h : parse1 b = some d) : wholeB (b :: bs) = d :: wholeB bs := by
  rw [wholeB, h]
theorem wholeB_stop {b : List UInt8} {bs : List (List UInt8)} (h : parse1 b = none) : wholeB (b :: bs) = [] := by
  rw [wholeB, h]
theorem wholeB_in : ∀ (bs : List (List UInt8)), ∀ d ∈ wholeB bs, DtIn d
  | [], d, h => by simp [wholeB] at h
  | b :: bs, d, h => by
    cases hp : parse1 b with
    | none => rw [wholeB_stop hp] at h; simp at h
    | some x =>
      rw [wholeB_cons hp] at h
      rcases List.mem_cons.1 h with rfl | h
      · exact (parse_in hp).1
      · exact wholeB_in bs d h
theorem wholeB_len : ∀ (bs : List (List UInt8)), (wholeB bs).length ≤ bs.length
  | [] => by simp [wholeB]
  | b :: bs => by
    cases hp : parse1 b with
    | none => rw [wholeB_stop hp]; simp
    | some x => rw [wholeB_cons hp]; have := wholeB_len bs; simp; omega
/-- its frames are the first ones -/
theorem wholeB_take : ∀ (bs : List (List UInt8)), (wholeB bs).map detB = bs.take (wholeB bs).length
  | [] => by simp [wholeB]
  | b :: bs => by
    cases hp : parse1 b with
    | none => rw [wholeB_stop hp]; simp
    | some x => rw [wholeB_cons hp]; simp [(parse_in hp).2, wholeB_take bs]
/-- all of the first k are determinants -/
theorem wholeB_step {bs : List (List UInt8)} {k : Nat} {b : List UInt8} {d : Dt} (hk : bs[k]? = some b) (hl : (wholeB (bs.take k)).length = k) (hp : parse1 b = some d) :
    wholeB (bs.take (k + 1)) = wholeB (bs.take k) ++ [d] := by
  induction bs generalizing k with
  | nil => simp at hk
  | cons x xs ih =>
    cases k with
    | zero =>
      simp at hk
      subst hk
      simp [wholeB, hp]
    | succ k =>
      rw [List.take_succ_cons] at hl ⊢
      rw [List.take_succ_cons]
      cases hx : parse1 x with
      | none => rw [wholeB_stop hx] at hl; simp at hl
      | some y =>
        rw [wholeB_cons hx] at hl ⊢
        rw [wholeB_cons hx, ih (by simpa using hk) (by simpa using hl)]
        rfl
theorem wholeB_end {bs : List (List UInt8)} {k : Nat} {b : List UInt8} (hk : bs[k]? = some b) (hl : (wholeB (bs.take k)).length = k) (hp : parse1 b = none) : wholeB bs = wholeB (bs.take k) := by
  induction bs generalizing k with
  | nil => simp at hk
  | cons x xs ih =>
    cases k with
    | zero =>
      simp at hk
      subst hk
      simp [wholeB, hp]
    | succ k =>
      rw [List.take_succ_cons] at hl ⊢
      cases hx : parse1 x with
      | none => rw [wholeB_stop hx] at hl; simp at hl
      | some y =>
        rw [wholeB_cons hx] at hl ⊢
        rw [wholeB_cons hx, ih (by simpa using hk) (by simpa using hl)]
theorem take_more (b : List UInt8) (k m j : Nat) : (b.drop k).take m ++ (b.drop (k + m)).take j = (b.drop k).take (m + j) := by
  rw [List.take_add, List.drop_drop]
theorem scans_bytes {b : List UInt8} {k : Nat} {ps : List (Nat × Nat)} {e : Nat} (h : Scans b k ps e) : k ≤ b.length → (ps.map (bodyL b)).flatMap sealL = (b.drop k).take (e - k) ∧ k ≤ e ∧ e ≤ b.length ∧ ∀ p ∈ ps, p.2 ≤ 4096 := by
  induction ps generalizing k with
  | nil =>
    intro hk
    rcases h.inv with ⟨_, rfl, _⟩ | ⟨n, ps', h1, _⟩
    · simp [hk]
    · cases h1
  | cons p ps ih =>
    intro hk
    rcases h.inv with ⟨h1, _, _⟩ | ⟨n, ps', h1, h2, h3, h4, h5⟩
    · cases h1
    · injection h1 with hp hps
      subst hp hps
      obtain ⟨i1, i2, i3, i4⟩ := ih h5 (by omega)
      have hne := nextL_cases b k
      have hsum : num ((b.drop (k + 4)).take 4) = sumL ((b.drop (k + 8)).take n) ∧ n ≤ 4096 := by
        by_cases hl : num ((b.drop k).take 4) ≤ 4096
        · refine ⟨Classical.byContradiction fun hc => ?_, by omega⟩
          have := nextL_sum (b := b) (k := k) (by omega) hl (by omega) (by rw [← h3]; exact hc)
          rw [this] at h2
          have h9 := congrArg (fun x => x.2.2) h2
          simp at h9
        · have := nextL_long (b := b) (k := k) (by omega) (by omega)
          rw [this] at h2
          have h9 := congrArg (fun x => x.2.2) h2
          simp at h9
      have hh := (head_iff b k n h4 h3.symm).2 hsum.1
      refine ⟨?_, by omega, i3, fun p hp => ?_⟩
      · rw [List.map_cons, List.flatMap_cons, i1]
        show headL ((b.drop (k + 8)).take n) ++ (b.drop (k + 8)).take n ++ _ = _
        rw [hh, take_more, Nat.add_assoc, take_more]
        congr 1
        omega
      · rcases List.mem_cons.1 hp with rfl | hp
        · exact hsum.2
        · exact i4 p hp
theorem flat_prefix {l m : List (List UInt8)} (h : l <+: m) : l.flatMap sealL <+: m.flatMap sealL := by
  obtain ⟨t, rfl⟩ := h
  rw [List.flatMap_append]
  exact List.prefix_append _ _
/-- what is found in bytes is a beginning of them -/
theorem whole_prefix {b : List UInt8} {l : List Dt} (h : WholeR b l) : frL l <+: b := by
  obtain ⟨ps, e, hs, rfl⟩ := h
  have h1 := (scans_bytes hs (by omega)).1
  unfold frL
  rw [wholeB_take]
  refine (flat_prefix (List.take_prefix _ _)).trans ?_
  rw [h1, List.drop_zero]
  exact List.take_prefix _ _
theorem whole_in {b : List UInt8} {l : List Dt} (h : WholeR b l) : ∀ d ∈ l, DtIn d := by
  obtain ⟨ps, e, hs, rfl⟩ := h
  exact wholeB_in _
theorem whole_len {b : List UInt8} {l : List Dt} (h : WholeR b l) : (frL l).length ≤ b.length ∧ 17 * l.length ≤ b.length := by
  have h1 := (whole_prefix h).length_le
  have h2 := frL_ge l
  exact ⟨h1, by omega⟩
/-- what a reading of a body gives -/
theorem det_cases (L : List UInt8) : (∃ d, parse1 L = some d ∧ ∀ e w', RdOut (rdAt rdDt L 0) (.agg #[Value.int .i64 0, Value.int .i64 0, Value.int .i64 0, Value.int .i64 0, Value.int .i64 0, Value.int .i64 0, Value.int .i64 0, Value.int .i64 0, Value.int .i64 0]) (fun a w' v => v = dtV a) e w' → e = .returned (.tuple #[.agg #[Value.int .i64 d.proc, Value.int .i64 d.index, Value.int .i64 d.ev.k0, Value.int .i64 d.ev.k1, Value.int .i64 d.ev.k2, Value.int .i64 d.ev.k3, Value.int .i64 d.ev.k4, Value.int .i64 d.ev.k5, Value.int .i64 d.ev.k6], .int .i64 (L.length : Int), .int .i64 0])) ∨
    (parse1 L = none ∧ ∃ (d : Dt) (q x : Int), (∀ e w', RdOut (rdAt rdDt L 0) (.agg #[Value.int .i64 0, Value.int .i64 0, Value.int .i64 0, Value.int .i64 0, Value.int .i64 0, Value.int .i64 0, Value.int .i64 0, Value.int .i64 0, Value.int .i64 0]) (fun a w' v => v = dtV a) e w' → e = .returned (.tuple #[.agg #[Value.int .i64 d.proc, Value.int .i64 d.index, Value.int .i64 d.ev.k0, Value.int .i64 d.ev.k1, Value.int .i64 d.ev.k2, Value.int .i64 d.ev.k3, Value.int .i64 d.ev.k4, Value.int .i64 d.ev.k5, Value.int .i64 d.ev.k6], .int .i64 q, .int .i64 x])) ∧ (x ≠ 0 ∨ (x = 0 ∧ q ≠ (L.length : Int)))) := by
  unfold RdOut
  rw [rdAt0]
  cases h : rdDt L 0 with
  | error x =>
    refine .inr ⟨by unfold parse1; rw [h], ⟨0, 0, 0, 0, 0, 0, 0, 0, 0⟩, 0, x, fun e w' h => h, .inl (by have := rdDt_er L 0 x h; omega)⟩
  | ok vq =>
    by_cases hx : vq.2 = L.length
    · refine .inl ⟨vq.1, by unfold parse1; rw [h]; simp [hx], fun e w' ⟨v, h, hv⟩ => by rw [h, hv, ← hx]; rfl⟩
    · refine .inr ⟨by unfold parse1; rw [h]; simp [hx], vq.1, vq.2, 0, fun e w' ⟨v, h, hv⟩ => (by rw [h, hv]; rfl), .inr ⟨rfl, by omega⟩⟩
end Go.Proofs.Ytjcfnpmgklliiaa
