/-
  The reading of a slice of determinants.
-/
import Derived.Test.YtjcfnpmgklliiaaOpenE
import Derived.Test.YtjcfnpmgklliiaaWalA
namespace Go.Proofs.Ytjcfnpmgklliiaa
open Go.RowKit Go.Deep Go.ChangeShapes Go.WideShapes Go.Joins
set_option linter.unusedVariables false
section
variable {H : Type} {enc : TypeId × Value → H} {w : World} {spare : Nat → Bool} {held : Bool}
set_option maxRecDepth 100000 in
theorem dt_el {m : Nat} {cs : List Value} {d' : DataW H} {pl' : List MemPlace} (hl : cs.length = 9) (h : DataW.trod enc Try.prog w 0 spare held m 38 cs = some (d', pl')) : ∃ d : Dt, cs = encDt d ∧ ∀ z ∈ d.l, InR z := by
  obtain ⟨y0, y1, y2, m0, _, _, g0, g1, g2⟩ := Go.Deep.trod_struct3 Try.underlying38 h
  match cs, hl with
  | c0 :: c1 :: rest, hl =>
    have hr7 : rest.length = 7 := by simpa using hl
    have g0' : DataW.trod enc Try.prog w 0 spare held m0 3 [c0] = some y0 := g0
    have g1' : DataW.trod enc Try.prog w 0 spare held m0 3 [c1] = some y1 := g1
    have g2' : DataW.trod enc Try.prog w 0 spare held m0 36 rest = some y2 := by
      have e : (List.drop 2 (c0 :: c1 :: rest)).take 7 = rest := by rw [List.drop_succ_cons, List.drop_succ_cons, List.drop_zero]; exact List.take_of_length_le (by omega)
      exact (congrArg (DataW.trod enc Try.prog w 0 spare held m0 36) e).symm.trans g2
    obtain ⟨zp, rfl, hzp⟩ := int_el g0'
    obtain ⟨zi, rfl, hzi⟩ := int_el g1'
    obtain ⟨ev, hev, hevr⟩ := ev_el (d' := y2.1) (pl' := y2.2) hr7 g2'
    refine ⟨⟨zp, zi, ev⟩, by rw [hev]; rfl, fun z hz => ?_⟩
    unfold Dt.l at hz
    simp at hz
    rcases hz with rfl | rfl | hz
    · exact hzp
    · exact hzi
    · exact hevr z hz
end
end Go.Proofs.Ytjcfnpmgklliiaa
