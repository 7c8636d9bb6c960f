/-
  The statement ReceiverlogKeeps, proved: for every input the law returns true and its arguments read as before. No condition. The frame is the kit's shell (proof-skeleton); the walk is ours.
-/
import Derived.Test.YtjcfnpmgklliiaaRows
import Derived.Test.YtjcfnpmgklliiaaWReceiverlogKeeps
import Derived.Test.YtjcfnpmgklliiaaOpenE
import Derived.WalkKit
import Derived.ProofKit
import Derived.OpenShut
import Derived.ShutString
import Derived.ChangeOld
import Derived.Below
import Derived.Lib.SmallJoins
namespace Go.Proofs.Ytjcfnpmgklliiaa.receiverlogKeeps
open Go.ChangeShapes Go.WideShapes Go.ChangeAt Go.RowKit
open Go.ChangeMaps (open_string shut_string)
set_option linter.unusedVariables false

theorem own : ownKnob Try.prog.godebug = none := by kernel_rfl
theorem laidOut : laidOutB Try.prog = true := by kernel_rfl


theorem two_cells {cs : Array Value} (h : cs.size = 2) : ∃ c0 c1, cs = #[c0, c1] := by
  obtain ⟨l⟩ := cs
  match l, h with
  | [c0, c1], _ => exact ⟨c0, c1, rfl⟩
theorem tear_cells : Try.prog.cellsOf 57 = 2 := by kernel_rfl
set_option maxRecDepth 100000 in
theorem tear_open {H : Type} {enc : TypeId × Value → H} {w : World} {spare : Nat → Bool} {held : Bool} {fuel : Nat} {c0 c1 : Value} {d : DataW H} {pl : List MemPlace} (h : DataW.trod enc Try.prog w 0 spare held fuel 57 [c0, c1] = some (d, pl)) :
    ∃ (keep : Int) (L : Option Addr) (nl cl : Nat) (lost : List Int), c0 = .int .i64 keep ∧ c1 = .slice L nl cl ∧ Recs encZ (· < w.heap.size) w (.slice L nl cl) lost := by
  obtain ⟨y0, y1, m1, hx1, _, g0, g1⟩ := trod_struct2 Try.underlying57 h
  have g0' : DataW.trod enc Try.prog w 0 spare held m1 3 [c0] = some y0 := g0
  have g1' : DataW.trod enc Try.prog w 0 spare held m1 46 [c1] = some y1 := g1
  obtain ⟨keep, e0, _⟩ := DataW.trod_int Try.underlying3 g0'
  obtain ⟨L, nl, cl, e1⟩ := Go.Joins.slice_form Try.underlying46 g1'
  cases e0
  cases e1
  obtain ⟨lost, hL, _⟩ := ints_open (d := y1.1) (pl := y1.2) g1'
  exact ⟨keep, L, nl, cl, lost, rfl, rfl, hL⟩

/-! ### THE ROW's STEP: WRITTEN OUT: LEAVE IT -/
set_option maxRecDepth 100000 in
theorem lifted (os : Os) (started : os.Started) (H : Type) (enc : TypeId × Value → H) :
    ReturnsInHanded {} Try.checked os 8 .any (Rows.receiverlogKeepsSpec.pre6 enc Try.prog Try.f8 Rows.receiverlogKeepsRow.domain false) (Rows.receiverlogKeepsSpec.post enc Try.prog Try.f8 false true false false) := by
  refine returnsInHanded_of_change (C := Try.checked) own started (by kernel_rfl) Try.func8
    (ChangeSpec.witness6 (enc := enc) (C := Try.checked) false ⟨#[], #[.slice none 0 0, .agg #[.int .i64 0, .slice none 0 0]], []⟩ 8 (by kernel_rfl) (by kernel_rfl) (by kernel_rfl) (by kernel_rfl)) ?_
  intro W base args ds gs before hval0 hW hcnd _
  have hval : ∀ (j : Nat) t v, Try.f8.params[j]? = some t → args[j]? = some v → Value.okWide Try.prog W .any base t v := hval0
  have hW' := hW
  obtain ⟨p, q, hA0, hV, rfl, hfz, hnd⟩ := hW
  have hA : DataW.TrodAll enc Try.prog W 0 (fun _ => true) true Try.f8.params.toList args.toList ds p := hA0
  rw [Try.params8] at hA hval
  obtain ⟨v0, vs0, d0, ds0, p0, q0, hargs, rfl, rfl, h0, r0⟩ := trodAll_cons hA
  obtain ⟨v1, vs1, d1, ds1, p1, q1, rfl, rfl, rfl, h1, r1⟩ := trodAll_cons r0
  obtain ⟨rfl, rfl, rfl⟩ := trodAll_nil r1
  obtain rfl : args = #[v0, v1] := by cases args; simp_all
  obtain ⟨rfl, rfl⟩ := trodVars_none hV
  obtain ⟨a0, len0, cap0, rfl⟩ := okWide_slice Try.underlying22 (hval 0 22 v0 rfl rfl)
  have k0 := h0
  have lt0 : ∀ x ∈ p0, x.block < W.heap.size := by obtain ⟨m, hm⟩ := k0; exact DataW.trod_lt m _ _ _ hm
  obtain ⟨z0, w0⟩ : ∃ zs, IsRow .u8 W a0 len0 cap0 zs := by
    obtain ⟨fuel, hf⟩ := h0
    rcases open_ints Try.underlying22 Try.underlying5 (by kernel_rfl) hf with ⟨hcs, _⟩ | ⟨x, l, c, zs, hcs, _, hl, hm, hz, _, hcell, hwz⟩
    · simp [Value.cells] at hcs
      obtain ⟨rfl, rfl, rfl⟩ := hcs
      exact ⟨[], .inl ⟨rfl, rfl, rfl, rfl⟩⟩
    · simp [Value.cells] at hcs
      obtain ⟨rfl, rfl, rfl⟩ := hcs
      exact ⟨zs, .inr ⟨_, rfl, hl, hm, by simpa using hz, hcell, hwz⟩⟩
  obtain ⟨codes, _, _, _, ho⟩ := IsRow.bytes w0
  have k1 := h1
  have lt1 : ∀ x ∈ p1, x.block < W.heap.size := by obtain ⟨m, hm⟩ := k1; exact DataW.trod_lt m _ _ _ hm
  obtain ⟨cs1, rfl, hsz1⟩ := okWide_struct Try.underlying57 (hval 1 57 v1 rfl rfl)
  obtain ⟨c0, c1, rfl⟩ := two_cells (hsz1.trans tear_cells)
  obtain ⟨fuel1, hf1⟩ := h1
  have hf1' : DataW.trod enc Try.prog W 0 (fun _ => true) true fuel1 57 [c0, c1] = some (d1, p1) := hf1
  obtain ⟨keep, L, nl, cl, lost, rfl, rfl, hL⟩ := tear_open hf1'
  clear hA0 hval0
  refine (walk a0 len0 cap0 codes keep L nl cl lost _ _ W ho hL).mono fun e W' ⟨he, bel⟩ => ?_
  subst he
  exact ⟨_, rfl, _, _, _, [], _, [], hW', trodAll_mk1 (shut_bool Try.underlying4 _), (trodAll_cons_mk (Below.trod laidOut (by kernel_rfl) (of_decide_eq_true (by kernel_rfl)) k0 bel lt0) (trodAll_cons_mk (Below.trod laidOut (by kernel_rfl) (of_decide_eq_true (by kernel_rfl)) k1 bel lt1) trodAll_mk0)), rfl, bel.frame _, fun h => by cases h⟩

theorem over : Rows.receiverlogKeepsRow.holds Try.pinned (OpenSpec.ofChange Rows.receiverlogKeepsSpec) :=
  OpenClaim.holds_of_wide 8 Try.f8 rfl rfl rfl rfl rfl rfl rfl ⟨rfl, rfl, rfl, rfl, rfl⟩ rfl rfl rfl rfl rfl (by kernel_rfl) Try.func8 (by kernel_rfl)
    (of_decide_eq_true (by kernel_rfl)) (by unfold Func.isWrapper; first | (rw [if_pos (by decide +kernel)]; kernel_rfl) | (rw [if_neg (by decide +kernel)]; exact ⟨rfl, rfl⟩))
    (fun os started H enc _ => lifted os started H enc)

/-- THE STATEMENT -/
theorem proved : Rows.ReceiverlogKeepsSaid := over
#print axioms proved
end Go.Proofs.Ytjcfnpmgklliiaa.receiverlogKeeps
