/-
  Results that lie in memory; whole rows stored over.
-/
import Derived.Test.YtgjjfjibfleonaaBase
namespace Go.Proofs.Ytgjjfjibfleonaa
open Go.RowKit
set_option linter.unusedVariables false
section
variable {P : Program} {fn : Func} {tmps : Array Value} {w : World} {a u v : Tmp} {t : TypeId} {A : Addr} {x : Value}
theorem results_c (h : fn.results = #[.cell a t]) (ha : tmps.getD a undef = .pointer (some A)) (hl : (loadVar t A).run P w = .ok x w) : (results fn tmps).run P w = .ok x w := by
  have ha' : tmps[a]?.getD undef = .pointer (some A) := by simpa using ha
  simp [results, h, asAddr, ha', hl]
theorem results_ct (h : fn.results = #[.cell a t, .tmp u]) (ha : tmps.getD a undef = .pointer (some A)) (hl : (loadVar t A).run P w = .ok x w) : (results fn tmps).run P w = .ok (.tuple #[x, tmps.getD u undef]) w := by
  have ha' : tmps[a]?.getD undef = .pointer (some A) := by simpa using ha
  simp [results, h, asAddr, ha', hl]
theorem results_ctt (h : fn.results = #[.cell a t, .tmp u, .tmp v]) (ha : tmps.getD a undef = .pointer (some A)) (hl : (loadVar t A).run P w = .ok x w) : (results fn tmps).run P w = .ok (.tuple #[x, tmps.getD u undef, tmps.getD v undef]) w := by
  have ha' : tmps[a]?.getD undef = .pointer (some A) := by simpa using ha
  simp [results, h, asAddr, ha', hl]
end
/-- a struct that fills a block -/
theorem run_ld_block {P : Program} {w : World} {g : Nat} {cs : Array Value} {t e : TypeId} {d : TypeDesc} (h : w.heap[g]? = some (.cells cs e (0, 0))) (hu : P.underlying t = some d) (hd : d.isRow = true) (hi : (P.info? t).map (·.size) = some cs.size) :
    (loadVar t ⟨g, 0, none⟩).run P w = .ok (.agg cs) w := by
  have := run_loadVar_mid (P := P) w g 0 t cs.toList d (fun j v hv => by rw [cell_of_row _ _ _ _ _ _ h, Nat.zero_add]; simpa using hv) hu hd (by simpa using hi)
  simpa using this
theorem grown_set' {w wr : World} {g j : Nat} {v : Value} (h : w.grownBy wr (some g)) : w.grownBy (wr.setCell ⟨g, j, none⟩ v) (some g) := grown_set h
theorem grown_setRow (w : World) (g : Nat) (cs : Array Value) : w.grownBy (w.setRow g cs) (some g) := ⟨rfl, rfl, rfl, by simp, fun j hj hne => setRow_other _ _ _ _ (by simpa using hne)⟩
end Go.Proofs.Ytgjjfjibfleonaa
