/-
  The statement CodecPuts in its second form, proved: for every input of bulk at most 1,048,576 the law returns true and its arguments read as before. The frame follows the kit's page on such statements; the walk is ours.
-/
import Derived.Test.YtgjjfjibfleonaaRows
import Derived.Test.YtgjjfjibfleonaaWCodecPuts
import Derived.Test.YtgjjfjibfleonaaOpenC
import Derived.WalkKit
import Derived.ProofKit
import Derived.OpenShut
import Derived.ShutString
import Derived.ChangeOld
import Derived.Below
import Derived.JoinedCond
namespace Go.Proofs.Ytgjjfjibfleonaa.codecPuts
open Go.ChangeShapes Go.WideShapes Go.ChangeAt Go.RowKit
set_option linter.unusedVariables false

theorem own : ownKnob Try.prog.godebug = none := by kernel_rfl
theorem laidOut : laidOutB Try.prog = true := by kernel_rfl

set_option maxRecDepth 100000 in
theorem contract (H : Type) (enc : TypeId × Value → H) (W : World) (base : Nat) (args : Array Value) (ds gs : List (DataW H)) (before : List MemPlace)
    (hval0 : ∀ (j : Nat) t v, Try.f4.params[j]? = some t → args[j]? = some v → Value.okWide Try.prog W .any base t v)
    (hW : DataW.Whole enc Try.prog Try.f4.params.toList Rows.codecPutsSpec.vars false W args.toList ds gs before) (hk : Rows.uptoSmall H (ds ++ gs) = true) :
    Calls Try.prog 4 args W fun e W' => ∃ v, e = .returned v ∧ Rows.codecPutsSpec.post enc Try.prog Try.f4 false true false false W args v W' := by
  have hval : ∀ (j : Nat) t v, Try.f4.params[j]? = some t → args[j]? = some v → Value.okWide Try.prog W .any base t v := hval0
  have hW' := hW
  obtain ⟨p, q, hA0, hV, rfl, hfz, hnd⟩ := hW
  have hA : DataW.TrodAll enc Try.prog W 0 (fun _ => true) true Try.f4.params.toList args.toList ds p := hA0
  rw [Try.params4] at hA hval
  obtain ⟨v0, vs0, d0, ds0, p0, q0, hargs, rfl, rfl, h0, r0⟩ := trodAll_cons hA
  obtain ⟨v1, vs1, d1, ds1, p1, q1, rfl, rfl, rfl, h1, r1⟩ := trodAll_cons r0
  obtain ⟨v2, vs2, d2, ds2, p2, q2, rfl, rfl, rfl, h2, r2⟩ := trodAll_cons r1
  obtain ⟨rfl, rfl, rfl⟩ := trodAll_nil r2
  obtain rfl : args = #[v0, v1, v2] := by cases args; simp_all
  obtain ⟨rfl, rfl⟩ := trodVars_none hV
  have k0 := h0
  have k1 := h1
  have k2 := h2
  have lt0 : ∀ x ∈ p0, x.block < W.heap.size := by obtain ⟨m, hm⟩ := k0; exact DataW.trod_lt m _ _ _ hm
  have lt1 : ∀ x ∈ p1, x.block < W.heap.size := by obtain ⟨m, hm⟩ := k1; exact DataW.trod_lt m _ _ _ hm
  have lt2 : ∀ x ∈ p2, x.block < W.heap.size := by obtain ⟨m, hm⟩ := k2; exact DataW.trod_lt m _ _ _ hm
  have hbulk : Rows.uptoBulk d0 + Rows.uptoBulk d1 + Rows.uptoBulk d2 ≤ 1048576 := by
    have h : Rows.uptoBulkAll ([d0, d1, d2] ++ []) ≤ 1048576 := of_decide_eq_true hk
    simp only [List.append_nil, Rows.uptoBulkAll] at h
    omega
  -- the determinant
  obtain ⟨cs0, rfl, hsz0⟩ := okWide_struct Try.underlying37 (hval 0 37 v0 rfl rfl)
  have hs9 : cs0.toList.length = 9 := by rw [Array.length_toList]; exact hsz0.trans (by kernel_rfl)
  obtain ⟨fuel0, hf0⟩ := h0
  obtain ⟨y0, y1, y2, m0, _, _, g0, g1, g2⟩ := Go.Deep.trod_struct3 Try.underlying37 hf0
  obtain ⟨c0, c1, rest, hrest⟩ : ∃ c0 c1 rest, cs0.toList = c0 :: c1 :: rest := by
    match hl : cs0.toList, hs9 with
    | c0 :: c1 :: rest, _ => exact ⟨c0, c1, rest, rfl⟩
  have hr7 : rest.length = 7 := by rw [hrest] at hs9; simpa using hs9
  have hcells : (Value.agg cs0).cells.toList = c0 :: c1 :: rest := hrest
  rw [hcells] at g0 g1 g2
  have g0' : DataW.trod enc Try.prog W 0 (fun _ => true) true m0 3 [c0] = some y0 := g0
  have g1' : DataW.trod enc Try.prog W 0 (fun _ => true) true m0 3 [c1] = some y1 := g1
  have g2' : DataW.trod enc Try.prog W 0 (fun _ => true) true m0 35 rest = some y2 := by
    have e : (List.drop 2 (c0 :: c1 :: rest)).take 7 = rest := by rw [List.drop_succ_cons, List.drop_succ_cons, List.drop_zero]; exact List.take_of_length_le (by omega)
    exact (congrArg (DataW.trod enc Try.prog W 0 (fun _ => true) true m0 35) e).symm.trans g2
  obtain ⟨zp, rfl, hzp⟩ := int_el g0'
  obtain ⟨zi, rfl, hzi⟩ := int_el g1'
  obtain ⟨ev, hev, hevr⟩ := ev_el (d' := y2.1) (pl' := y2.2) hr7 g2'
  obtain rfl : cs0 = #[.int .i64 zp, .int .i64 zi, .int .i64 ev.k0, .int .i64 ev.k1, .int .i64 ev.k2, .int .i64 ev.k3, .int .i64 ev.k4, .int .i64 ev.k5, .int .i64 ev.k6] := by
    apply Array.toList_inj.1
    rw [hrest, hev]
    rfl
  -- the pages
  obtain ⟨A1, n1, cp1, rfl⟩ := okWide_slice Try.underlying38 (hval 1 38 v1 rfl rfl)
  obtain ⟨fuel1, hf1⟩ := h1
  have hf1' : DataW.trod enc Try.prog W 0 (fun _ => true) true fuel1 38 [.slice A1 n1 cp1] = some (d1, p1) := hf1
  obtain ⟨ps, hP, hpo⟩ := pages_open hf1' (by omega)
  -- the state
  obtain ⟨s0, s1, s2, s3, t0, t1, t2, t3, m2, rfl, hd2, _, e0, e1, e2, e3⟩ := Go.Joins.open_agg4 Try.underlying43 (by kernel_rfl) (by kernel_rfl) (hval 2 43 v2 rfl rfl) h2
  have e0' : DataW.trod enc Try.prog W 0 (fun _ => true) true m2 25 [s0] = some t0 := e0
  have e1' : DataW.trod enc Try.prog W 0 (fun _ => true) true m2 39 [s1] = some t1 := e1
  have e2' : DataW.trod enc Try.prog W 0 (fun _ => true) true m2 40 [s2] = some t2 := e2
  have e3' : DataW.trod enc Try.prog W 0 (fun _ => true) true m2 41 [s3] = some t3 := e3
  obtain ⟨Ac, nc, cc, x0⟩ := Go.Joins.slice_form Try.underlying25 e0'
  obtain ⟨Ae, ne, ce, x1⟩ := Go.Joins.slice_form Try.underlying39 e1'
  obtain ⟨As, ns, cs, x2⟩ := Go.Joins.slice_form Try.underlying40 e2'
  obtain ⟨Ao, no, co, x3⟩ := Go.Joins.slice_form Try.underlying41 e3'
  cases x0
  cases x1
  cases x2
  cases x3
  obtain ⟨cells, hC, hCr, hCl⟩ := ints_open (d := t0.1) (pl := t0.2) e0'
  obtain ⟨evs, hE, hEr⟩ := list_open encEv encEv_len (by omega) Ev.l Try.underlying39 (by kernel_rfl) (d := t1.1) (pl := t1.2) e1' (fun m cs d' pl' hl ht => ev_el hl ht)
  obtain ⟨sent, hS, hSr⟩ := list_open encSn encSn_len (by omega) Snd.l Try.underlying40 (by kernel_rfl) (d := t2.1) (pl := t2.2) e2' (fun m cs d' pl' hl ht => sn_el hl ht)
  obtain ⟨outs, hO, hOr⟩ := list_open encOu encOu_len (by omega) Ou.l Try.underlying41 (by kernel_rfl) (d := t3.1) (pl := t3.2) e3' (fun m cs d' pl' hl ht => ou_el hl ht)
  have hb0 : Rows.uptoBulk t0.1 ≤ Rows.uptoBulk d2 := by
    rw [hd2]
    simp only [Rows.uptoBulk, Rows.uptoBulkAll]
    omega
  clear hA0 hval0
  refine (walk ⟨zp, zi, ev⟩ A1 n1 cp1 ps ⟨cells, evs, sent, outs⟩ Ac Ae As Ao nc cc ne ce ns cs no co W (fun z hz => by
    unfold Dt.l at hz
    simp at hz
    rcases hz with rfl | rfl | hz
    · exact hzp
    · exact hzi
    · exact hevr z hz) hP hpo hC hE hS hO ⟨hCr, hEr, hSr, hOr, by show cells.length ≤ _; omega⟩).mono fun e W' ⟨he, bel⟩ => ?_
  subst he
  exact ⟨_, rfl, _, _, _, [], _, [], hW', trodAll_mk1 (shut_bool Try.underlying4 _), (trodAll_cons_mk (Below.trod laidOut (by kernel_rfl) (of_decide_eq_true (by kernel_rfl)) k0 bel lt0) (trodAll_cons_mk (Below.trod laidOut (by kernel_rfl) (of_decide_eq_true (by kernel_rfl)) k1 bel lt1) (trodAll_cons_mk (Below.trod laidOut (by kernel_rfl) (of_decide_eq_true (by kernel_rfl)) k2 bel lt2) trodAll_mk0))), rfl, bel.frame _, fun h => by cases h⟩

set_option maxRecDepth 100000 in
theorem lifted (os : Os) (started : os.Started) (H : Type) (enc : TypeId × Value → H) (F : Stop.Interp) :
    ReturnsInHanded {} Try.checked os 4 .any ((Rows.OpenSpec.upto Rows.codecPutsSpec).pre6 enc Try.prog Try.f4 Rows.codecPutsUptoRow.domain false) (((Rows.OpenSpec.upto Rows.codecPutsSpec).at F).post enc Try.prog Try.f4 false true false false) := by
  refine returnsInHanded_of_cond (C := Try.checked) (s := Rows.OpenSpec.upto Rows.codecPutsSpec) (k := Rows.uptoSmall) rfl own started (by kernel_rfl) Try.func4
    (OpenSpec.witness (enc := enc) (C := Try.checked) (s := Rows.OpenSpec.upto Rows.codecPutsSpec) (k := Rows.uptoSmall) rfl false ⟨#[], #[.agg #[.int .i64 0, .int .i64 0, .int .i64 0, .int .i64 0, .int .i64 0, .int .i64 0, .int .i64 0, .int .i64 0, .int .i64 0], .slice none 0 0, .agg #[.slice none 0 0, .slice none 0 0, .slice none 0 0, .slice none 0 0]], []⟩ 8 (by kernel_rfl) (by kernel_rfl) (by kernel_rfl)
      (x := ([.agg [.lit (.int .i64 0), .lit (.int .i64 0), .agg [.lit (.int .i64 0), .lit (.int .i64 0), .lit (.int .i64 0), .agg [.lit (.int .i64 0), .lit (.int .i64 0)], .lit (.int .i64 0), .lit (.int .i64 0)]], .nil, .agg [.nil, .nil, .nil, .nil]], [], [])) (by kernel_rfl) rfl (by kernel_rfl)) ?_
  intro W base args ds gs before hval hW _ hk _
  exact contract H enc W base args ds gs before hval hW hk

theorem over : Rows.codecPutsUptoRow.holds Try.pinned (Rows.OpenSpec.upto Rows.codecPutsSpec) :=
  OpenClaim.holds_of_cond 4 Try.f4 rfl rfl rfl rfl rfl rfl rfl ⟨rfl, rfl, rfl, rfl, rfl⟩ rfl rfl rfl rfl rfl (by kernel_rfl) Try.func4 (by kernel_rfl)
    (of_decide_eq_true (by kernel_rfl)) (by unfold Func.isWrapper; first | (rw [if_pos (by decide +kernel)]; kernel_rfl) | (rw [if_neg (by decide +kernel)]; exact ⟨rfl, rfl⟩))
    (fun os started H enc _ F => lifted os started H enc F)

/-- THE STATEMENT -/
theorem proved : Rows.CodecPutsUptoSaid := over
#print axioms proved
end Go.Proofs.Ytgjjfjibfleonaa.codecPuts
