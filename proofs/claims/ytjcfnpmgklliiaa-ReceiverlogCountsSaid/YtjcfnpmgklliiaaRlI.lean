/-
  Law 30: the load of an act out of a list of acts.
-/
import Derived.Test.YtjcfnpmgklliiaaRlH
namespace Go.Proofs.Ytjcfnpmgklliiaa
open Go.RowKit
set_option linter.unusedVariables false
theorem ActOk.ext {S : Nat → Prop} {w w' : World} {x : AcV} {t : Act30} (h : ActOk S w x t) (hb : Below w.heap.size w w') : ActOk S w' x t := ⟨h.1, h.2.1, h.2.2.1, h.2.2.2.1, h.2.2.2.2.ext hb⟩
theorem ld_act {W w' : World} {ba o : Nat} {x : AcV} (hw : Below W.heap.size W w') (hba : ba < W.heap.size) (hc : ∀ i u, (encAc x)[i]? = some u → W.cell? ⟨ba, o + i, none⟩ = some u) :
    (loadVar 77 ⟨ba, o, none⟩).run Try.prog w' = .ok (.agg #[.int .i64 x.kind, .int .i64 x.d.proc, .int .i64 x.d.index, .int .i64 x.d.ev.k0, .int .i64 x.d.ev.k1, .int .i64 x.d.ev.k2, .int .i64 x.d.ev.k3, .int .i64 x.d.ev.k4, .int .i64 x.d.ev.k5, .int .i64 x.d.ev.k6, .int .i64 x.n, .int .i64 x.keep, .slice x.L x.nl x.cl]) w' := by
  have := run_loadVar_mid (P := Try.prog) w' ba o 77 (encAc x) _ (fun j v hv => (hw.cell (p := ⟨ba, o + j, none⟩) hba).trans (hc j v hv)) Try.underlying77 rfl (by kernel_rfl)
  exact this
/-- one act of a list -/
theorem Acts.at_ {S : Nat → Prop} {w : World} {A : Option Addr} {n c k : Nat} {ts : List Act30} (h : Acts S w (.slice A n c) ts) (hk : k < n) : ∃ b off x t, A = some ⟨b, off, none⟩ ∧ b < w.heap.size ∧ ts[k]? = some t ∧ ActOk S w x t ∧ ∀ i u, (encAc x)[i]? = some u → w.cell? ⟨b, off + k * 13 + i, none⟩ = some u := by
  have hl := h.len
  obtain ⟨xs, h1, h2, h3⟩ := h
  obtain ⟨b, off, x, rfl, _, hb, hx, hc⟩ := h1.at_ encAc_len (j := k) (by omega) (by omega)
  have ht : ts[k]? = some ts[k] := List.getElem?_eq_getElem (by omega)
  exact ⟨b, off, x, _, rfl, hb, ht, h3 k x _ hx ht, hc⟩
theorem ActOk.mono {S S' : Nat → Prop} {w : World} {x : AcV} {t : Act30} (h : ActOk S w x t) (hs : ∀ b, b < w.heap.size → S b → S' b) : ActOk S' w x t := ⟨h.1, h.2.1, h.2.2.1, h.2.2.2.1, h.2.2.2.2.mono hs⟩
theorem ActOk.keep {S : Nat → Prop} {w w' : World} {x : AcV} {t : Act30} (h : ActOk S w x t) (hk : Keep S w w') : ActOk S w' x t := ⟨h.1, h.2.1, h.2.2.1, h.2.2.2.1, h.2.2.2.2.keep hk⟩
/-- where nothing is unwritten, all but an append leaves what is stable -/
theorem step_pess {t : Act30} {a a2 b2 u2 : List Dt} (h9 : t.kind < 9) (h5 : ¬ t.kind < 5) (hst : StepR t a [] [] a2 b2 u2) (hin : ∀ d ∈ a, DtIn d) : a2 = a ∧ b2 = [] ∧ u2 = [] := by
  rcases hst with ⟨hk, ha, hb, hu⟩ | ⟨hk, ha, hb, hu⟩ | ⟨hk, ha, hb, hu⟩ | ⟨hk, ha, hb, hu⟩ | ⟨hk, ha, hb, hu⟩
  · omega
  · omega
  · exact ⟨ha, by rw [hb]; simp, by rw [hu]; simp⟩
  · exact ⟨by rw [ha]; simp, hb, hu⟩
  · refine ⟨?_, hb, hu⟩
    have e : tornL (frL []) t.keep t.lost = [] := by
      have := tornL_le (frL []) t.keep t.lost
      rw [frL_nil] at this ⊢
      exact List.eq_nil_of_length_eq_zero (by simpa using this)
    rw [e, List.append_nil] at ha
    exact whole_uniq ha (whole_frL a hin)
end Go.Proofs.Ytjcfnpmgklliiaa
