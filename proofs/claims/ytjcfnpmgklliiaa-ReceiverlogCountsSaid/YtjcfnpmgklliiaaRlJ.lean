/-
  Law 30: what an act makes of a journal when no sectors are lost: plain.
-/
import Derived.Test.YtjcfnpmgklliiaaRlI
namespace Go.Proofs.Ytjcfnpmgklliiaa
open Go.RowKit
set_option linter.unusedVariables false
theorem Acts.atS {S : Nat → Prop} {w : World} {A : Option Addr} {n c k : Nat} {ts : List Act30} (h : Acts S w (.slice A n c) ts) (hk : k < n) : ∃ b off x t, A = some ⟨b, off, none⟩ ∧ S b ∧ b < w.heap.size ∧ ts[k]? = some t ∧ ActOk S w x t ∧ ∀ i u, (encAc x)[i]? = some u → w.cell? ⟨b, off + k * 13 + i, none⟩ = some u := by
  have hl := h.len
  obtain ⟨xs, h1, h2, h3⟩ := h
  obtain ⟨b, off, x, rfl, hs, hb, hx, hc⟩ := h1.at_ encAc_len (j := k) (by omega) (by omega)
  have ht : ts[k]? = some ts[k] := List.getElem?_eq_getElem (by omega)
  exact ⟨b, off, x, _, rfl, hs, hb, ht, h3 k x _ hx ht, hc⟩
theorem ld_det {W w' : World} {b o : Nat} {x : Dt} (hw : Below W.heap.size W w') (hb : b < W.heap.size) (hc : ∀ i u, (encDt x)[i]? = some u → W.cell? ⟨b, o + i, none⟩ = some u) :
    (loadVar 38 ⟨b, o, none⟩).run Try.prog w' = .ok (.agg #[.int .i64 x.proc, .int .i64 x.index, .int .i64 x.ev.k0, .int .i64 x.ev.k1, .int .i64 x.ev.k2, .int .i64 x.ev.k3, .int .i64 x.ev.k4, .int .i64 x.ev.k5, .int .i64 x.ev.k6]) w' := by
  have := run_loadVar_mid (P := Try.prog) w' b o 38 (encDt x) _ (fun j v hv => (hw.cell (p := ⟨b, o + j, none⟩) hb).trans (hc j v hv)) Try.underlying38 rfl (by kernel_rfl)
  exact this
theorem ld_actd {W w' : World} {b o : Nat} {x : AcV} (hw : Below W.heap.size W w') (hb : b < W.heap.size) (hc : ∀ i u, (encAc x)[i]? = some u → W.cell? ⟨b, o + i, none⟩ = some u) :
    (loadVar 38 ⟨b, o + 1, none⟩).run Try.prog w' = .ok (.agg #[.int .i64 x.d.proc, .int .i64 x.d.index, .int .i64 x.d.ev.k0, .int .i64 x.d.ev.k1, .int .i64 x.d.ev.k2, .int .i64 x.d.ev.k3, .int .i64 x.d.ev.k4, .int .i64 x.d.ev.k5, .int .i64 x.d.ev.k6]) w' := by
  refine ld_det hw hb (x := x.d) (fun i u hu => ?_)
  have hi : i < 9 := by have := (List.getElem?_eq_some_iff.1 hu).1; simpa [encDt] using this
  have := hc (1 + i) u (by
    rw [← hu]
    match i, hi with
    | 0, _ => rfl
    | 1, _ => rfl
    | 2, _ => rfl
    | 3, _ => rfl
    | 4, _ => rfl
    | 5, _ => rfl
    | 6, _ => rfl
    | 7, _ => rfl
    | 8, _ => rfl)
  rwa [← Nat.add_assoc] at this
/-- a crash that loses no sectors leaves a beginning of what there was, with all that was stable -/
theorem step_opt8 {t : Act30} {a b u a2 b2 u2 : List Dt} (h8 : t.kind = 8) (hl : t.lost = []) (hst : StepR t a b u a2 b2 u2) (ha : ∀ d ∈ a, DtIn d) (hb : ∀ d ∈ b, DtIn d) : b2 = [] ∧ u2 = [] ∧ a2 <+: a ++ b ++ u ∧ a <+: a2 := by
  rcases hst with ⟨hk, h1, h2, h3⟩ | ⟨hk, h1, h2, h3⟩ | ⟨hk, h1, h2, h3⟩ | ⟨hk, h1, h2, h3⟩ | ⟨hk, h1, h2, h3⟩
  · omega
  · omega
  · omega
  · omega
  · refine ⟨h2, h3, ?_⟩
    rw [hl] at h1
    obtain ⟨i, hi1, hi2, hi3⟩ := keeps_cut (a ++ b) a.length (fun d hd => by
      rcases List.mem_append.1 hd with q | q
      · exact ha d q
      · exact hb d q) (by rw [List.length_append]; omega) t.keep
    rw [List.take_left, List.drop_left] at hi3
    have e := whole_uniq h1 hi3
    subst e
    refine ⟨(List.take_prefix _ _).trans (List.prefix_append _ _), ?_⟩
    rw [List.take_append]
    rw [List.take_of_length_le hi2]
    exact List.prefix_append _ _
theorem step_opt5 {t : Act30} {a b u a2 b2 u2 : List Dt} (h5 : t.kind < 5) (hst : StepR t a b u a2 b2 u2) : a2 ++ b2 ++ u2 = a ++ b ++ u ++ [t.d] := by
  rcases hst with ⟨hk, h1, h2, h3⟩ | ⟨hk, h1, h2, h3⟩ | ⟨hk, h1, h2, h3⟩ | ⟨hk, h1, h2, h3⟩ | ⟨hk, h1, h2, h3⟩
  · rw [h1, h2, h3]; simp
  · rw [h1, h2, h3]; simp
  · omega
  · omega
  · omega
theorem step_opt7 {t : Act30} {a b u a2 b2 u2 : List Dt} (h5 : ¬ t.kind < 5) (h8 : t.kind ≠ 8) (hst : StepR t a b u a2 b2 u2) : a2 ++ b2 ++ u2 = a ++ b ++ u ∧ (t.kind = 7 → b2 = [] ∧ u2 = []) := by
  rcases hst with ⟨hk, h1, h2, h3⟩ | ⟨hk, h1, h2, h3⟩ | ⟨hk, h1, h2, h3⟩ | ⟨hk, h1, h2, h3⟩ | ⟨hk, h1, h2, h3⟩
  · omega
  · omega
  · rw [h1, h2, h3]
    refine ⟨?_, fun h => by omega⟩
    rw [List.append_assoc, List.append_assoc, List.take_append_drop, List.append_assoc]
  · rw [h1, h2, h3]
    exact ⟨by simp, fun _ => ⟨rfl, rfl⟩⟩
  · omega
/-- a crash that keeps all pending bytes loses none -/
theorem whole_all {a b : List Dt} (ha : ∀ d ∈ a, DtIn d) (hb : ∀ d ∈ b, DtIn d) (k : Int) (hk : ((frL b).length : Int) ≤ k) : WholeR (frL a ++ tornL (frL b) k []) (a ++ b) := by
  have e : tornL (frL b) k [] = frL b := by
    unfold tornL
    rw [maskL_nil, List.take_of_length_le]
    unfold keepN
    omega
  rw [e, ← frL_append]
  exact whole_frL _ (fun x hx => by
    rcases List.mem_append.1 hx with q | q
    · exact ha x q
    · exact hb x q)
theorem whole_none {a : List Dt} (ha : ∀ d ∈ a, DtIn d) (k : Int) (lost : List Int) : WholeR (frL a ++ tornL (frL []) k lost) a := by
  have e : tornL (frL []) k lost = [] := by
    have := tornL_le (frL []) k lost
    rw [frL_nil] at this ⊢
    exact List.eq_nil_of_length_eq_zero (by simpa using this)
  rw [e, List.append_nil]
  exact whole_frL a ha
end Go.Proofs.Ytjcfnpmgklliiaa
