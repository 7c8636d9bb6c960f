/-
  The law's sanity check.
-/
import Derived.Test.YtjcfnpmgklliiaaWalE
import Derived.Test.YtjcfnpmgklliiaaBack
import Derived.Test.YtjcfnpmgklliiaaDets
namespace Go.Proofs.Ytjcfnpmgklliiaa
open Go.RowKit
set_option maxRecDepth 100000
set_option linter.unusedVariables false
set_option linter.unusedSimpArgs false

def xDt : Dt := ⟨1, 2, 2, 0, 0, 0, 0, 0, 3⟩
theorem xDt_in : ∀ d ∈ [xDt, xDt], DtIn d := by
  intro d hd z hz
  simp at hd
  subst hd
  simp [xDt, Dt.l, Ev.l] at hz
  rcases hz with h | h | h | h <;> subst h <;> exact ⟨by omega, by omega⟩
theorem boxD (w w1 : World) (cs : Array Value) (T : TypeId) (hb : Below w.heap.size w w1) : ∃ W, W = w1.alloc (.cells cs T) ∧ Below w.heap.size w W ∧ Below w1.heap.size w1 W ∧ RowKit.Hid (W.heap.size = w1.heap.size + 1) ∧ RowKit.Hid (W.heap[w1.heap.size]? = some (.cells cs T (0, 0))) :=
  ⟨_, rfl, hb.alloc hb.size _, (Below.refl _ _).alloc (Nat.le_refl _) _, Lib.hid (by simp), Lib.hid (heap_alloc_new _ _)⟩

set_option maxHeartbeats 2000000 in
theorem awake12_any (w : World) : Calls Try.prog 13 #[] w fun e w' => e = .returned (.bool true) ∧ Below w.heap.size w w' := by
  have hnew := new_ok 1 (by omega) w
  rw [show ((1 : Nat) : Int) = 1 from rfl] at hnew
  have Hnew := Lib.hid hnew
  clear hnew
  go_enter Try.func13, Try.ntmps13
  go_wp2_with fail
  refine (Hnew.out).mono ?_
  rintro e w1 ⟨A1, c1, rfl, hD1, hb1⟩
  have sw1 := hb1.size
  obtain ⟨W2, hW2, b2, k2, S2, r2⟩ := boxD w w1 #[.slice A1 1 c1] 45 hb1
  go_upto_region 2 with (refine wpList_store_new rfl 45 _ _ rfl 45 _ #[.slice A1 1 c1] rfl rfl (by kernel_rfl) rfl (by simp [Value.oneCell']) ?_)
  rw [← hW2]
  clear hW2
  obtain ⟨W3, hW3, b3, k3, S3, r3⟩ := boxD w W2 #[Value.int .i64 1, Value.int .i64 2, Value.int .i64 2, Value.int .i64 0, Value.int .i64 0, Value.int .i64 0, Value.int .i64 0, Value.int .i64 0, Value.int .i64 3] 38 b2
  go_upto_region 3 with (refine wpList_store_new rfl 38 _ _ rfl 38 _ #[Value.int .i64 1, Value.int .i64 2, Value.int .i64 2, Value.int .i64 0, Value.int .i64 0, Value.int .i64 0, Value.int .i64 0, Value.int .i64 0, Value.int .i64 3] rfl rfl (by kernel_rfl) rfl (by simp [Value.oneCell']) ?_)
  rw [← hW3]
  clear hW3
  have HA := Lib.hid ((k3.block w1.heap.size (by have := S2.out; omega)).trans r2.out)
  have HX := r3
  obtain ⟨W4, hW4, b4, k4, S4, r4⟩ := boxD w W3 #[Value.int .i64 1, Value.int .i64 2, Value.int .i64 2, Value.int .i64 0, Value.int .i64 0, Value.int .i64 0, Value.int .i64 0, Value.int .i64 0, Value.int .i64 3, Value.int .i64 1, Value.int .i64 2, Value.int .i64 2, Value.int .i64 0, Value.int .i64 0, Value.int .i64 0, Value.int .i64 0, Value.int .i64 0, Value.int .i64 3] 38 b3
  have hL4 : Recs encDt (fun b => b = W3.heap.size) W4 (.slice (some ⟨W3.heap.size, 0, none⟩) 2 2) [xDt, xDt] := by rw [hW4]; exact ⟨_, 2, rfl, by simp, by simp [maxLen], Cs.lit _ _ _ _ _ rfl rfl⟩
  have hD4 : Dsk (fun b => b < w1.heap.size) W4 (.slice A1 1 c1) [zFil] := ((hD1.mono (S' := fun b => b < w1.heap.size) (fun b hb _ => hb)).ext (Below.ext (Below.ext k2 k3) k4))
  have hap := walappend_go A1 1 c1 [zFil] _ W4 hD4 (by omega) 0 (some ⟨W3.heap.size, 0, none⟩) 2 2 [xDt, xDt] _ hL4 xDt_in (by have := frL_len _ xDt_in; simp at this; omega) (fun f hf => by simp at hf; subst hf; decide) [⟨[], frL [xDt, xDt]⟩] 1 0 (.inl ⟨0, zFil, rfl, rfl, rfl, rfl, rfl⟩)
  have Hap := Lib.hid hap
  have HA4 := Lib.hid ((k4.block w1.heap.size (by have := S2.out; have := S3.out; omega)).trans HA.out)
  have HX4 := Lib.hid ((k4.block W2.heap.size (by have := S3.out; omega)).trans HX.out)
  clear hap r2 r3 r4 hD1 hL4
  go_wp2_with (first | (refine wpList_load_row rfl 45 _ rfl _ rfl 45 _ (0,0) _ HA.out Try.underlying45 rfl (by kernel_rfl) ?_) | (refine wpList_load_row rfl 38 _ rfl _ rfl 38 _ (0,0) _ HX.out Try.underlying38 rfl (by kernel_rfl) ?_))
  rw [← hW4]
  clear hW4
  refine Hap.out.mono ?_
  rintro e w5 ⟨A5, c5, rfl, hD5, hb5⟩
  have HA5 := Lib.hid ((hb5.block w1.heap.size (by have := S2.out; have := S3.out; have := S4.out; omega)).trans HA4.out)
  have HX5 := Lib.hid ((hb5.block W2.heap.size (by have := S3.out; have := S4.out; omega)).trans HX4.out)
  have B5 := Below.ext b4 hb5
  obtain ⟨W6, hW6⟩ : ∃ W6, W6 = w5.setRow w1.heap.size #[.slice A5 1 c5] := ⟨_, rfl⟩
  have B6 : Below w.heap.size w W6 := by rw [hW6]; exact Below.setRow B5 (by omega) _
  have HA6 := Lib.hid (show W6.heap[w1.heap.size]? = some (.cells #[.slice A5 1 c5] 45 (0, 0)) by rw [hW6]; exact setRow_heap _ _ _ _ _ _ HA5.out)
  have HX6 := Lib.hid (show W6.heap[W2.heap.size]? = some (.cells #[Value.int .i64 1, Value.int .i64 2, Value.int .i64 2, Value.int .i64 0, Value.int .i64 0, Value.int .i64 0, Value.int .i64 0, Value.int .i64 0, Value.int .i64 3] 38 (0, 0)) by rw [hW6]; exact (setRow_other _ _ _ _ (by have := S2.out; omega)).trans HX5.out)
  have hD6 : Dsk (fun b => b ≠ w1.heap.size) W6 (.slice A5 1 c5) [⟨[], frL [xDt, xDt]⟩] := by
    rw [hW6]
    exact (hD5.mono (S' := fun b => b ≠ w1.heap.size) (fun b _ h => by have := S2.out; have := S3.out; have := S4.out; rcases h with h | h <;> omega)).keep (fun b hb hs => setRow_other _ _ _ _ hs)
  have sz6 : W6.heap.size = w5.heap.size := by rw [hW6]; exact setRow_size _ _ _
  go_upto_region 4 with (refine wpList_store_row rfl 45 _ _ rfl w1.heap.size 45 _ _ rfl rfl HA5.out (by kernel_rfl) rfl (by simp [Value.oneCell']) ?_)
  rw [← hW6]
  clear hW6
  have hfl : (frL [xDt, xDt]).length ≤ 196 := by have := frL_len _ xDt_in; simpa using this
  have hop := walopen_go A5 1 c5 [⟨[], frL [xDt, xDt]⟩] _ W6 hD6 (by omega) 0 (fun f hf => by simp at hf; subst hf; simp [flen]; omega) [xDt, xDt] [⟨frL [xDt, xDt], []⟩] 1 0 (.inl ⟨0, _, rfl, rfl, by simpa using whole_frL _ xDt_in, rfl, rfl, rfl⟩)
  have Hop := Lib.hid hop
  clear hop hfl
  go_wp2_with (refine wpList_load_row rfl 45 _ rfl _ rfl 45 _ (0,0) _ HA6.out Try.underlying45 rfl (by kernel_rfl) ?_)
  refine Hop.out.mono ?_
  rintro e w7 ⟨A7, c7, B7, e7, rfl, hL7, hD7, hb7⟩
  rw [show [xDt, xDt].length = 2 from rfl] at hL7 ⊢
  obtain ⟨W8, hW8, b8, k8, S8, r8⟩ := boxD w w7 #[.slice B7 1 e7] 45 (Below.ext B6 hb7)
  have hL8 := hL7.ext k8
  obtain ⟨b0, o0, x0, rfl, _, _, hx0, hc0⟩ := hL8.at_ encDt_len (j := 1) (by simp) (by omega)
  simp at hx0
  subst hx0
  have HX8 := Lib.hid ((k8.block W2.heap.size (by have := hb7.size; have := hb5.size; have := S3.out; have := S4.out; omega)).trans ((hb7.block W2.heap.size (by have := hb5.size; have := S3.out; have := S4.out; omega)).trans HX6.out))
  go_upto_region 5 with (refine wpList_store_new rfl 45 _ _ rfl 45 _ #[.slice B7 1 e7] rfl rfl (by kernel_rfl) rfl (by simp [Value.oneCell']) ?_)
  rw [← hW8]
  clear hW8
  have p0 : W8.cell? ⟨b0, o0 + 9, none⟩ = some (.int .i64 1) := hc0 0 _ rfl
  have p1 : W8.cell? ⟨b0, o0 + 9 + 1, none⟩ = some (.int .i64 2) := hc0 1 _ rfl
  have p2 : W8.cell? ⟨b0, o0 + 9 + 2, none⟩ = some (.int .i64 2) := hc0 2 _ rfl
  have p3 : W8.cell? ⟨b0, o0 + 9 + 3, none⟩ = some (.int .i64 0) := hc0 3 _ rfl
  have p4 : W8.cell? ⟨b0, o0 + 9 + 4, none⟩ = some (.int .i64 0) := hc0 4 _ rfl
  have p5 : W8.cell? ⟨b0, o0 + 9 + 5, none⟩ = some (.int .i64 0) := hc0 5 _ rfl
  have p6 : W8.cell? ⟨b0, o0 + 9 + 6, none⟩ = some (.int .i64 0) := hc0 6 _ rfl
  have p7 : W8.cell? ⟨b0, o0 + 9 + 7, none⟩ = some (.int .i64 0) := hc0 7 _ rfl
  have p8 : W8.cell? ⟨b0, o0 + 9 + 8, none⟩ = some (.int .i64 3) := hc0 8 _ rfl
  have q0 : W8.cell? ⟨W2.heap.size, 0, none⟩ = some (.int .i64 1) := row_cell HX8.out 0 _ rfl
  have q1 : W8.cell? ⟨W2.heap.size, 1, none⟩ = some (.int .i64 2) := row_cell HX8.out 1 _ rfl
  have q2 : W8.cell? ⟨W2.heap.size, 2, none⟩ = some (.int .i64 2) := row_cell HX8.out 2 _ rfl
  have q3 : W8.cell? ⟨W2.heap.size, 3, none⟩ = some (.int .i64 0) := row_cell HX8.out 3 _ rfl
  have q4 : W8.cell? ⟨W2.heap.size, 4, none⟩ = some (.int .i64 0) := row_cell HX8.out 4 _ rfl
  have q5 : W8.cell? ⟨W2.heap.size, 5, none⟩ = some (.int .i64 0) := row_cell HX8.out 5 _ rfl
  have q6 : W8.cell? ⟨W2.heap.size, 6, none⟩ = some (.int .i64 0) := row_cell HX8.out 6 _ rfl
  have q7 : W8.cell? ⟨W2.heap.size, 7, none⟩ = some (.int .i64 0) := row_cell HX8.out 7 _ rfl
  have q8 : W8.cell? ⟨W2.heap.size, 8, none⟩ = some (.int .i64 3) := row_cell HX8.out 8 _ rfl
  clear hc0
  go_wp2_with fail
  refine wp_region_lex (fun _ => True) (by kernel_rfl) (by kernel_rfl) trivial ?_
  repeat (first | (refine lex_q rfl ⟨default, trivial⟩ ?_; go_big_quiet_step (fail); refine wpQuiet_nil ?_) | (refine lex_skip rfl rfl trivial ?_; simp only [Act.put, List.setIfInBounds_toArray, List.set_cons_succ, List.set_cons_zero]) | (refine lex_e rfl ?_; go_wp2_with fail; refine lex_go trivial ?_))
  refine lex_nil ?_
  go_wp2_with fail
  go_wp2
  go_ret
  exact ⟨rfl, b8.drew⟩
end Go.Proofs.Ytjcfnpmgklliiaa
