/-
  codec.read at int: the deferred closure, the reading, and codec.Int.
-/
import Derived.Test.YtgjjfjibfleonaaReader
import Derived.Test.YtgjjfjibfleonaaLexL
import Derived.Test.YtgjjfjibfleonaaRes
import Derived.Defers
import Derived.Recover
namespace Go.Proofs.Ytgjjfjibfleonaa
open Go.RowKit
set_option maxRecDepth 100000
set_option linter.unusedVariables false

theorem run_assert (v : Value) (w : World) : (Instr.typeAssert (.iface 90 v) 20 90 true).run Try.prog w = .ok (.tuple #[v, .bool true]) w := by
  simp [Instr.typeAssert, run_underlying Try.underlying90]

theorem catchI_idle (p q s : Addr) (w : World) : CallsD Try.prog 47 #[.pointer (some p), .pointer (some q), .pointer (some s)] .returning w fun e u' w' => e = .returned (.tuple #[]) ∧ u' = .returning ∧ w' = w := by
  refine callsD_of_wpS Try.func47 rfl fun c₀ cs hu => ?_
  apply wpS_seq
  apply wpS_region
  generalize hQ : Exit.thenS _ _ = Q0
  simp [wpOpsS, go_sem, recoverD, hu, Try.ntmps47, Array.replicate]
  subst hQ
  refine wpS_of_wp ?_
  go_wp2
  cases c₀
  simp_all [bodyPostS, results, Try.results47]

theorem catchI_fail (k b6 b7 b8 : Nat) (x6 x7 x8 : Int) (w w0 : World) (B : Nat) (h6 : w.heap[b6]? = some (.cells #[.int .i64 x6] 3 (0, 0))) (h7 : w.heap[b7]? = some (.cells #[.int .i64 x7] 3 (0, 0))) (h8 : w.heap[b8]? = some (.cells #[.int .i64 x8] 26 (0, 0))) (hne : b6 ≠ b7 ∧ b6 ≠ b8 ∧ b7 ≠ b8) (hB : B ≤ b6 ∧ B ≤ b7 ∧ B ≤ b8) (hw : Below B w0 w) :
    CallsD Try.prog 47 #[.pointer (some ⟨b6, 0, none⟩), .pointer (some ⟨b7, 0, none⟩), .pointer (some ⟨b8, 0, none⟩)] (.panicking (failP k)) w fun e u' w' => e = .returned (.tuple #[]) ∧ u' = .panicking [{ v := failV k, recovered := true }] ∧ w'.cell? ⟨b6, 0, none⟩ = some (.int .i64 0) ∧ w'.cell? ⟨b7, 0, none⟩ = some (.int .i64 0) ∧ w'.cell? ⟨b8, 0, none⟩ = some (.int .i64 (k : Int)) ∧ Below B w0 w' := by
  have c6 : w.cell? ⟨b6, 0, none⟩ = some (.int .i64 x6) := by rw [cell_of_row _ _ _ _ _ _ h6]; rfl
  have c7 : w.cell? ⟨b7, 0, none⟩ = some (.int .i64 x7) := by rw [cell_of_row _ _ _ _ _ _ h7]; rfl
  have c8 : w.cell? ⟨b8, 0, none⟩ = some (.int .i64 x8) := by rw [cell_of_row _ _ _ _ _ _ h8]; rfl
  have f6 := frozen_of_row _ _ 0 _ _ h6
  have f7 := frozen_of_row _ _ 0 _ _ h7
  have f8 := frozen_of_row _ _ 0 _ _ h8
  have l6 := (Array.getElem?_eq_some_iff.1 h6).1
  have l7 := (Array.getElem?_eq_some_iff.1 h7).1
  have l8 := (Array.getElem?_eq_some_iff.1 h8).1
  obtain ⟨n1, n2, n3⟩ := hne
  have n1' := n1.symm
  have n2' := n2.symm
  have n3' := n3.symm
  have H6 := Lib.hid h6
  have H7 := Lib.hid h7
  have H8 := Lib.hid h8
  clear h6 h7 h8
  unfold failP
  refine callsD_of_wpS Try.func47 rfl fun c₀ cs hu => ?_
  apply wpS_seq
  apply wpS_region
  generalize hQ : Exit.thenS _ _ = Q0
  simp [wpOpsS, go_sem, recoverD, hu, Try.ntmps47, Array.replicate]
  subst hQ
  refine wpS_of_wp ?_
  unfold failV
  have hta := run_assert (.agg #[.int .i64 (k : Int)])
  go_wp2
  refine ⟨rfl, _, rfl, _, results_none rfl _ _ _, rfl, rfl, ?_, ?_, ?_, ?_⟩
  · go_simp
  · go_simp
  · have r1 : ((w.setCell ⟨b6, 0, none⟩ (.int .i64 0)).setCell ⟨b7, 0, none⟩ (.int .i64 0)).heap[b8]? = some (.cells #[.int .i64 x8] 26 (0, 0)) := by
      rw [heap_setCell_other _ _ _ _ n3', heap_setCell_other _ _ _ _ n2']
      exact H8.out
    have r2 : (((w.setCell ⟨b6, 0, none⟩ (.int .i64 0)).setCell ⟨b7, 0, none⟩ (.int .i64 0)).setCell ⟨b8, 0, none⟩ (.int .i64 9)).heap[b8]? = some (.cells #[.int .i64 9] 26 (0, 0)) := heap_setCell_same _ b8 0 _ _ _ r1
    have r3 : ((((w.setCell ⟨b6, 0, none⟩ (.int .i64 0)).setCell ⟨b7, 0, none⟩ (.int .i64 0)).setCell ⟨b8, 0, none⟩ (.int .i64 9)).setCell ⟨b8, 0, none⟩ (.int .i64 (k : Int))).heap[b8]? = some (.cells #[.int .i64 (k : Int)] 26 (0, 0)) := heap_setCell_same _ b8 0 _ _ _ r2
    have r4 := cell_of_row _ _ 0 _ _ _ r3
    go_simp
  · exact Below.alloc (Below.setCell (p := ⟨b8, 0, none⟩) (Below.setCell (p := ⟨b8, 0, none⟩) (Below.setCell (p := ⟨b7, 0, none⟩) (Below.setCell (p := ⟨b6, 0, none⟩) hw hB.1 _) hB.2.1 _) hB.2.2 _) hB.2.2 _) (by simp; omega) _

/-- what is read at an offset, with the offset's own error -/
def rdAt {α : Type} (f : List UInt8 → Nat → Except Nat (α × Nat)) (L : List UInt8) (k : Int) : Except Nat (α × Nat) := if k < 0 ∨ (L.length : Int) < k then .error 3 else f L k.toNat
/-- the three results -/
def rdOut {α : Type} (f : α → Value) (z : Value) : Except Nat (α × Nat) → Value
  | .ok (v, q) => .tuple #[f v, .int .i64 (q : Int), .int .i64 0]
  | .error x => .tuple #[z, .int .i64 0, .int .i64 (x : Int)]
def iv (v : Int) : Value := .int .i64 v
/-- the three results' variables -/
theorem boxes3 (w : World) (o1 o2 o3 : Obj) : ∃ W, W = ((w.alloc o1).alloc o2).alloc o3 ∧ Below w.heap.size w W ∧ W.heap.size = w.heap.size + 1 + 1 + 1 ∧ W.heap[w.heap.size]? = some o1 ∧ W.heap[w.heap.size + 1]? = some o2 ∧ W.heap[w.heap.size + 1 + 1]? = some o3 := by
  have e1 := heap_alloc_new w o1
  have e2 := heap_alloc_new (w.alloc o1) o2
  have e3 := heap_alloc_new ((w.alloc o1).alloc o2) o3
  simp only [World.size_alloc] at e2 e3
  have n := fun (w : World) (o : Obj) => (Below.refl w.heap.size w).alloc (Nat.le_refl _) o
  refine ⟨_, rfl, ((n w o1).alloc (by simp) o2).alloc (by simp; omega) o3, by simp, ?_, ?_, e3⟩
  · exact ((n _ o3).block _ (by simp; omega)).trans (((n _ o2).block _ (by simp)).trans e1)
  · exact ((n _ o3).block _ (by simp)).trans e2
theorem ret_tuple {a b : Value} (h : a = b) : Ending.returned a = .returned b := by rw [h]

set_option maxHeartbeats 1000000 in
theorem readI_any (A : Option Addr) (n c : Nat) (k : Int) (L : List UInt8) (S : Nat → Prop) (w : World) (hb : Bytes S w (.slice A n c) L) (hn : n ≤ 100000000) :
    Calls Try.prog 26 #[.slice A n c, .int .i64 k, .func (.func 27) #[] #[]] w fun e w' => e = .returned (rdOut iv (iv 0) (rdAt rdInt L k)) ∧ Below w.heap.size w w' := by
  have hmf : ∀ (fn : Fn) (first cap : Array Value) (w : World), (Instr.makeFunc fn first cap).run Try.prog w = .ok (.func fn first cap) w := fun _ _ _ _ => rfl
  have hln := hb.len
  obtain ⟨W, hW, hbW, hsW, r6, r7, r8⟩ := boxes3 w (.cells #[.int .i64 0] 3) (.cells #[.int .i64 0] 3) (.cells #[.int .i64 0] 26)
  by_cases hk : k < 0 ∨ (L.length : Int) < k
  · have hcat := catchI_fail 3 w.heap.size (w.heap.size + 1) (w.heap.size + 1 + 1) _ _ _ W w w.heap.size r6 r7 r8 ⟨by omega, by omega, by omega⟩ ⟨by omega, by omega, by omega⟩ hbW
    have Hcat := Lib.hid hcat
    clear hcat r6 r7 r8
    have hfin : rdAt rdInt L k = .error 3 := if_pos hk
    rw [hfin]
    by_cases h0 : k < 0
    · have d0 : decide (k < 0) = true := by simpa using h0
      go_enter_defers Try.func26, Try.ntmps26
      go_wp2
      rw [← hW]
      refine leaves_cons (f := 47) (args := #[.pointer (some ⟨w.heap.size, 0, none⟩), .pointer (some ⟨w.heap.size + 1, 0, none⟩), .pointer (some ⟨w.heap.size + 1 + 1, 0, none⟩)]) (by simp) (by simp [go_sem]) ?_
      refine Hcat.out.mono ?_
      rintro e u' w'' ⟨rfl, rfl, g6, g7, g8, hbb⟩
      simp [Leaves, settle, results, Try.results26, go_sem, g6, g7, g8]
      exact ⟨rfl, hbb⟩
    · have d0 : decide (k < 0) = false := by simpa using h0
      have d1 : decide ((n : Int) < k) = true := by simp; omega
      go_enter_defers Try.func26, Try.ntmps26
      go_wp2
      rw [← hW]
      refine leaves_cons (f := 47) (args := #[.pointer (some ⟨w.heap.size, 0, none⟩), .pointer (some ⟨w.heap.size + 1, 0, none⟩), .pointer (some ⟨w.heap.size + 1 + 1, 0, none⟩)]) (by simp) (by simp [go_sem]) ?_
      refine Hcat.out.mono ?_
      rintro e u' w'' ⟨rfl, rfl, g6, g7, g8, hbb⟩
      simp [Leaves, settle, results, Try.results26, go_sem, g6, g7, g8]
      exact ⟨rfl, hbb⟩
  · obtain ⟨p, rfl⟩ := Int.eq_ofNat_of_zero_le (show 0 ≤ k by omega)
    have hp : p ≤ n := by omega
    have hfin : rdAt rdInt L (p : Int) = rdInt L p := (if_neg hk).trans (by rw [Int.toNat_natCast])
    rw [hfin]
    clear hfin hk
    have d0 : decide ((p : Int) < 0) = false := by simp
    have d1 : decide ((n : Int) < (p : Int)) = false := by simp; omega
    have d2 : decide (n < p) = false := by simp; omega
    obtain ⟨W2, hW2⟩ : ∃ W2, W2 = W.alloc (.cells #[.slice A n c, .int .i64 (p : Int)] 93) := ⟨_, rfl⟩
    have hb2 : Below W.heap.size W W2 := by rw [hW2]; exact (Below.refl _ _).alloc (Nat.le_refl _) _
    have r9 : W2.heap[W.heap.size]? = some (.cells #[.slice A n c, .int .i64 (p : Int)] 93 (0, 0)) := by rw [hW2]; exact heap_alloc_new _ _
    have hRd : Rdr w.heap.size W2 W.heap.size L p := by
      have h1 := hln.1
      subst h1
      exact ⟨by omega, A, c, r9, (hb.mono (fun _ h _ => h)).ext (Below.ext hbW hb2), by omega, by omega⟩
    go_enter_defers Try.func26, Try.ntmps26
    go_wp2_with fail
    rw [← hW, ← hsW, ← hW2]
    refine (rint_any w.heap.size W.heap.size p L W2 hRd).mono ?_
    intro e w3 h3
    have s2 := hb2.size
    have hs3 : w.heap.size + 1 + 1 < W.heap.size := by omega
    clear hsW hW hW2
    have hlt9 : W.heap.size < W2.heap.size := hRd.lt
    unfold Reads at h3
    cases hx : rdInt L p with
    | error x =>
      rw [hx] at h3
      obtain ⟨rfl, hg3⟩ := h3
      have k6 := (hg3.block w.heap.size (by omega) (by simp; omega)).trans ((hb2.block _ (by omega)).trans r6)
      have k7 := (hg3.block (w.heap.size + 1) (by omega) (by simp; omega)).trans ((hb2.block _ (by omega)).trans r7)
      have k8 := (hg3.block (w.heap.size + 1 + 1) (by omega) (by simp; omega)).trans ((hb2.block _ (by omega)).trans r8)
      have hcat := catchI_fail x w.heap.size (w.heap.size + 1) (w.heap.size + 1 + 1) _ _ _ w3 w w.heap.size k6 k7 k8 ⟨by omega, by omega, by omega⟩ ⟨by omega, by omega, by omega⟩ (Below.grow (Below.ext hbW hb2) hg3 (by omega))
      have Hcat := Lib.hid hcat
      clear hcat r6 r7 r8 k6 k7 k8 hRd r9
      go_wp2
      refine leaves_cons (f := 47) (args := #[.pointer (some ⟨w.heap.size, 0, none⟩), .pointer (some ⟨w.heap.size + 1, 0, none⟩), .pointer (some ⟨w.heap.size + 1 + 1, 0, none⟩)]) (by simp [failP]) (by simp [go_sem]) ?_
      refine Hcat.out.mono ?_
      rintro e u' w'' ⟨rfl, rfl, g6, g7, g8, hbb⟩
      simp [Leaves, settle, results, Try.results26, go_sem, g6, g7, g8]
      exact ⟨by rw [hx]; rfl, hbb⟩
    | ok vq =>
      obtain ⟨v, q⟩ := vq
      rw [hx] at h3
      obtain ⟨⟨_, rfl, rfl⟩, hR3, hg3⟩ := h3
      have k6 := (hg3.block w.heap.size (by omega) (by simp; omega)).trans ((hb2.block _ (by omega)).trans r6)
      have k7 := (hg3.block (w.heap.size + 1) (by omega) (by simp; omega)).trans ((hb2.block _ (by omega)).trans r7)
      have k8 := (hg3.block (w.heap.size + 1 + 1) (by omega) (by simp; omega)).trans ((hb2.block _ (by omega)).trans r8)
      have c6 : w3.cell? ⟨w.heap.size, 0, none⟩ = some (.int .i64 0) := by rw [cell_of_row _ _ _ _ _ _ k6]; rfl
      have c7 : w3.cell? ⟨w.heap.size + 1, 0, none⟩ = some (.int .i64 0) := by rw [cell_of_row _ _ _ _ _ _ k7]; rfl
      have c8 : w3.cell? ⟨w.heap.size + 1 + 1, 0, none⟩ = some (.int .i64 0) := by rw [cell_of_row _ _ _ _ _ _ k8]; rfl
      have f6 := frozen_of_row _ _ 0 _ _ k6
      have f7 := frozen_of_row _ _ 0 _ _ k7
      have f8 := frozen_of_row _ _ 0 _ _ k8
      have b3 := Below.grow (Below.ext hbW hb2) hg3 (by omega)
      have c9 : w3.cell? ⟨W.heap.size, 1, none⟩ = some (.int .i64 (q : Int)) := by
        obtain ⟨_, A', c', h1, _⟩ := hR3
        rw [cell_of_row _ _ _ _ _ _ h1]; rfl
      clear r6 r7 r8 k6 k7 k8 hRd r9
      have n9 : W.heap.size ≠ w.heap.size := by omega
      have hag : ∀ w : World, (isAgg 3).run Try.prog w = .ok false w := fun w => by simp [isAgg, run_underlying Try.underlying3]
      go_wp2_with fail
      have e6 : (w3.setCell ⟨w.heap.size, 0, none⟩ (.int .i64 v)).cell? ⟨w.heap.size, 0, none⟩ = some (.int .i64 v) := by go_simp
      have e9 : (w3.setCell ⟨w.heap.size, 0, none⟩ (.int .i64 v)).cell? ⟨W.heap.size, 1, none⟩ = some (.int .i64 (q : Int)) := by go_simp
      have f6' : (w3.setCell ⟨w.heap.size, 0, none⟩ (.int .i64 v)).frozen? ⟨w.heap.size, 0, none⟩ = false := by go_simp
      have bS := b3.setCell (p := ⟨w.heap.size, 0, none⟩) (Nat.le_refl _) (.int .i64 v)
      have e7 : (w3.setCell ⟨w.heap.size, 0, none⟩ (.int .i64 v)).cell? ⟨w.heap.size + 1, 0, none⟩ = some (.int .i64 0) := by go_simp
      have e8 : (w3.setCell ⟨w.heap.size, 0, none⟩ (.int .i64 v)).cell? ⟨w.heap.size + 1 + 1, 0, none⟩ = some (.int .i64 0) := by go_simp
      have f7' : (w3.setCell ⟨w.heap.size, 0, none⟩ (.int .i64 v)).frozen? ⟨w.heap.size + 1, 0, none⟩ = false := by go_simp
      have f8' : (w3.setCell ⟨w.heap.size, 0, none⟩ (.int .i64 v)).frozen? ⟨w.heap.size + 1 + 1, 0, none⟩ = false := by go_simp
      clear c6 c7 c8 f6 f7 f8 c9 b3
      generalize w3.setCell ⟨w.heap.size, 0, none⟩ (.int .i64 v) = W4 at *
      refine wp_region_lexL (fun w' => w'.cell? ⟨w.heap.size, 0, none⟩ = some (.int .i64 v) ∧ w'.cell? ⟨W.heap.size, 1, none⟩ = some (.int .i64 (q : Int))) (by kernel_rfl) (by kernel_rfl) ⟨e6, e9⟩ ?_
      repeat (first | (refine lexL_q0 rfl ?_; go_big_quiet_step (fail); refine wpQuiet_nil ?_) | (refine lexL_skip0 rfl rfl ?_; simp only [Act.put, List.setIfInBounds_toArray, List.set_cons_succ, List.set_cons_zero]))
      refine lexL_ld (⟨w.heap.size, 0, none⟩) (.int .i64 v) rfl rfl rfl (fun w' hw' => run_ld1 (hag _) hw'.1) ?_
      simp only [Act.put, List.setIfInBounds_toArray, List.set_cons_succ, List.set_cons_zero]
      repeat (first | (refine lexL_q0 rfl ?_; go_big_quiet_step (fail); refine wpQuiet_nil ?_) | (refine lexL_skip0 rfl rfl ?_; simp only [Act.put, List.setIfInBounds_toArray, List.set_cons_succ, List.set_cons_zero]))
      refine lexL_ld (⟨W.heap.size, 1, none⟩) (.int .i64 (q : Int)) rfl rfl rfl (fun w' hw' => run_ld1 (hag _) hw'.2) ?_
      simp only [Act.put, List.setIfInBounds_toArray, List.set_cons_succ, List.set_cons_zero]
      repeat (first | (refine lexL_q0 rfl ?_; go_big_quiet_step (fail); refine wpQuiet_nil ?_) | (refine lexL_skip0 rfl rfl ?_; simp only [Act.put, List.setIfInBounds_toArray, List.set_cons_succ, List.set_cons_zero]))
      refine lexL_e rfl ?_
      go_wp2_with fail
      go_wp2_with fail
      refine lexL_go (⟨by go_simp, by go_simp⟩) ?_
      repeat (first | (refine lexL_q0 rfl ?_; go_big_quiet_step (fail); refine wpQuiet_nil ?_) | (refine lexL_skip0 rfl rfl ?_; simp only [Act.put, List.setIfInBounds_toArray, List.set_cons_succ, List.set_cons_zero]))
      refine lexL_e rfl ?_
      go_wp2_with fail
      go_wp2_with fail
      refine lexL_go (⟨by go_simp, by go_simp⟩) ?_
      repeat (first | (refine lexL_q0 rfl ?_; go_big_quiet_step (fail); refine wpQuiet_nil ?_) | (refine lexL_skip0 rfl rfl ?_; simp only [Act.put, List.setIfInBounds_toArray, List.set_cons_succ, List.set_cons_zero]))
      refine lexL_e rfl ?_
      go_wp2_with fail
      go_wp2_with fail
      refine lexL_go (⟨by go_simp, by go_simp⟩) ?_
      repeat (first | (refine lexL_q0 rfl ?_; go_big_quiet_step (fail); refine wpQuiet_nil ?_) | (refine lexL_skip0 rfl rfl ?_; simp only [Act.put, List.setIfInBounds_toArray, List.set_cons_succ, List.set_cons_zero]))
      refine lexL_nil ?_
      go_wp2_with fail
      have g6 : (((W4.setCell ⟨w.heap.size, 0, none⟩ (.int .i64 v)).setCell ⟨w.heap.size + 1, 0, none⟩ (.int .i64 (q : Int))).setCell ⟨w.heap.size + 1 + 1, 0, none⟩ (.int .i64 0)).drew.cell? ⟨w.heap.size, 0, none⟩ = some (.int .i64 v) := by go_simp
      have g7 : (((W4.setCell ⟨w.heap.size, 0, none⟩ (.int .i64 v)).setCell ⟨w.heap.size + 1, 0, none⟩ (.int .i64 (q : Int))).setCell ⟨w.heap.size + 1 + 1, 0, none⟩ (.int .i64 0)).drew.cell? ⟨w.heap.size + 1, 0, none⟩ = some (.int .i64 (q : Int)) := by go_simp
      have g8 : (((W4.setCell ⟨w.heap.size, 0, none⟩ (.int .i64 v)).setCell ⟨w.heap.size + 1, 0, none⟩ (.int .i64 (q : Int))).setCell ⟨w.heap.size + 1 + 1, 0, none⟩ (.int .i64 0)).drew.cell? ⟨w.heap.size + 1 + 1, 0, none⟩ = some (.int .i64 0) := by go_simp
      have b7 := (((bS.setCell (p := ⟨w.heap.size, 0, none⟩) (Nat.le_refl _) (.int .i64 v)).setCell (p := ⟨w.heap.size + 1, 0, none⟩) (show _ ≤ w.heap.size + 1 by omega) (.int .i64 (q : Int))).setCell (p := ⟨w.heap.size + 1 + 1, 0, none⟩) (show _ ≤ w.heap.size + 1 + 1 by omega) (.int .i64 0)).drew
      generalize (((W4.setCell ⟨w.heap.size, 0, none⟩ (.int .i64 v)).setCell ⟨w.heap.size + 1, 0, none⟩ (.int .i64 (q : Int))).setCell ⟨w.heap.size + 1 + 1, 0, none⟩ (.int .i64 0)).drew = W7 at *
      refine leaves_cons (f := 47) (args := #[.pointer (some ⟨w.heap.size, 0, none⟩), .pointer (some ⟨w.heap.size + 1, 0, none⟩), .pointer (some ⟨w.heap.size + 1 + 1, 0, none⟩)]) (by simp) (by simp [go_sem]) ?_
      refine (catchI_idle _ _ _ W7).mono ?_
      rintro e u' w'' ⟨rfl, rfl, rfl⟩
      simp [Leaves, settle, results, Try.results26, go_sem, g6, g7, g8]
      exact ⟨by rw [hx]; rfl, b7⟩

theorem codecInt_any (A : Option Addr) (n c : Nat) (k : Int) (L : List UInt8) (S : Nat → Prop) (w : World) (hb : Bytes S w (.slice A n c) L) (hn : n ≤ 100000000) :
    Calls Try.prog 9 #[.slice A n c, .int .i64 k] w fun e w' => e = .returned (rdOut iv (iv 0) (rdAt rdInt L k)) ∧ Below w.heap.size w w' := by
  obtain ⟨v, q, x, hv⟩ : ∃ v q x, rdOut iv (iv 0) (rdAt rdInt L k) = .tuple #[.int .i64 v, .int .i64 q, .int .i64 x] := by
    cases rdAt rdInt L k with
    | ok p => exact ⟨p.1, p.2, 0, rfl⟩
    | error x => exact ⟨0, 0, x, rfl⟩
  have h := readI_any A n c k L S w hb hn
  rw [hv] at h ⊢
  go_enter Try.func9, Try.ntmps9
  go_wp2_with fail
  refine (h).mono ?_
  rintro e w1 ⟨rfl, hb1⟩
  go_wp2
  refine bodyPost_ret (results_tmp3 rfl _ _ _) rfl ?_
  exact ⟨rfl, hb1⟩
end Go.Proofs.Ytgjjfjibfleonaa
